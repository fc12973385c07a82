import Derived.Test.YtmcadllokkmeiaaGreatDoorCBI
import Derived.Test.YtmcadllokkmeiaaGreatDoorCBD
import Derived.Test.YtmcadllokkmeiaaGreatDoorCBE
import Derived.Test.YtmcadllokkmeiaaGreatDoorCBH
import Derived.Test.YtmcadllokkmeiaaGreatDoorCAH
import Derived.Test.YtmcadllokkmeiaaGreatDoorCAM
import Derived.Test.YtmcadllokkmeiaaGreatDoorCAU
set_option linter.all false
namespace Go.Tev
section
theorem xG{h:Hp}{k e esz:Nat}{ag:Bool}{es cs:List AV}(he:∀x∈es,El esz ag x)(hg:h.get k=some (e,.blk cs esz ag false false))(hu:bV esz ag es=some cs)(d n:Nat)(hn:n=es.length):Tev.snap (d+2) h (.rf k e 0 n n)=some (.sl false es false,[k]):=by
 subst hn;obtain⟨cs',h1,h2,h3,h4⟩:=dQ he;rw[hu]at h1;cases h1;have h5:=h4 [];rw[List.append_nil]at h5;have ht:treeL es=true:=by
  clear h2 h4 h5 hu hg
  induction es with
  |nil=>rfl
  |cons x r ih=>simp only[treeL,aG];exact⟨(he x (by simp)).tree,ih (λy hy=>he y (dH _ hy))⟩
 have h6:dA (Tev.snap (d+1) h) es=some (es,[]):=eZ d h ht;rw[eK];simp[hg,h5,h6,AV.tree]
theorem El.spl(l:List Sp):∀x∈l.map bQ,El 2 true x:=by intro x hx;obtain⟨c,_,rfl⟩:=List.mem_map.1 hx;exact⟨rfl,rfl,rfl⟩
section
variable{pg:Pg}
end
end
section
section
variable{pg:Pg}
theorem bE.ofH{f:Nat}{vs:List AV}{P:AV->Prop}(hr:gH pg f vs 0 [] (λr h'=>∃r',Tev.conv h' r=some r'/\P r')):bE pg f vs P:=by obtain⟨r,h',⟨n,e⟩,r',hc,hp⟩:=hr;exact⟨r',⟨n,by simp only[cQ,e,hc]⟩,hp⟩
theorem aAs{h:Hp}{k0:Nat}{v:AV}{es:List AV}(o:Own h k0 4 true v es)(he:∀x∈es,El 4 true x)(n:Int):∃nl cl,Tev.conv h (.tup [v,.int .i64 n])=some (.tup [.sl nl es cl,.int .i64 n]):=by
 rcases o with ⟨rfl,nl,cl,rfl,_⟩|⟨e,cs,rfl,hg,hu⟩
 exact⟨nl,cl,rfl⟩;have hsn:Tev.snap 63 h _=_:=xG he hg hu 61 _ rfl;refine⟨false,false,?_⟩;simp only[Tev.conv,depth,cF,bD,eK,↓hsn,go_sem,seval]
end
end
section
def chg(h h':Hp):Hp:=h'.filter λx => !uL (h.get x.k) (some (x.e,x.o))
theorem G3:∀l:List (AV×AV),M9 l l=true
 |[]=>rfl
 |x::r=>by simp[M9,uM,G3 r]
theorem EE(o:Option (Nat×Ob)):uL o o=true:=by
 cases o with
 |none=>rfl
 |some p=>obtain⟨e,o⟩:=p;cases o<;>simp[uL,aAi,mY,G3]
theorem VA{p:Ent->Bool}:∀{h:Hp}{k e:Nat}{o:Ob},h.all p=true->p ⟨k,e,o⟩=true->(h.put k e o).all p=true
 |[],_,_,_,_,hp=>by simp[Hp.put,hp]
 |x::r,k,e,o,h,hp=>by simp only[List.all_cons,aG]at h;rw[Hp.put];split;simp[h.1,h.2,hp];split;simp[h.2,hp];simp only[List.all_cons,aG];exact⟨h.1,VA h.2 hp⟩
def oN:Hp->Bool
 |[]=>true
 |x::r=>(r.all λy=>decide (x.k<y.k))&&oN r
theorem j1:∀{h:Hp}{k e:Nat}{o:Ob},oN h=true->oN (h.put k e o)=true
 |[],_,_,_,_=>by simp[Hp.put,oN]
 |x::r,k,e,o,h=>by simp only[oN,aG]at h;rw[Hp.put];split;rename_i hk;simp only[oN,List.all_cons,aG,aY,h.1,h.2,and_true,hk,true_and];rw[eG];intro y hy;have:=eG.1 h.1 y hy;simp only[aY]at this ⊢;omega;rename_i hk;split;rename_i he;subst he;simp only[oN,h.2,Bool.and_true];exact h.1;rename_i he;simp only[oN,aG];exact⟨VA h.1 (by simp;omega),j1 h.2⟩
theorem qE:∀{pa:List Ent}{h:Hp},oN h=true->oN (cM h pa)=true
 |[],_,h=>h
 |x::r,_,h=>qE (pa:=r) (j1 h)
theorem FC:∀{h:Hp},oN h=true->jM h=true
 |[],_=>rfl
 |x::r,h=>by simp only[oN,aG]at h;simp only[jM,aG];refine⟨?_,FC h.2⟩;rw[eG];intro y hy;have:=eG.1 h.1 y hy;simp only[aY]at this;simp;omega
theorem rV{p:Ent->Bool}:∀{h:Hp},jM h=true->jM (h.filter p)=true
 |[],_=>rfl
 |x::r,h=>by simp only[jM,aG]at h;rw[List.filter_cons];split;simp only[jM,aG];refine⟨?_,rV h.2⟩;rw[eG];intro y hy;exact eG.1 h.1 y (List.mem_filter.1 hy).1;exact rV h.2
theorem M0{h:Hp}{k:Nat}(hn:∀x∈h,x.k≠k):h.get k=none:=by
 cases hq:h.get k with
 |none=>rfl
 |some p=>obtain⟨x,hx,hk⟩:=vG hq;exact absurd hk (hn x hx)
theorem DW{p:Ent->Bool}:∀{h:Hp}(k:Nat),jM h=true->Hp.get (h.filter p) k=match h.get k with|some (e,o)=>if p ⟨k,e,o⟩ then some (e,o) else none|none=>none
 |[],_,_=>rfl
 |x::r,k,hn=>by
  simp only[jM,aG]at hn;have ih:=DW (p:=p) (h:=r) k hn.2;rw[List.filter_cons];by_cases hk:x.k=k;subst hk
  have hr:∀y∈r,y.k≠x.k:=λy hy=>by have:=eG.1 hn.1 y hy;simpa using this
  have hx:p ⟨x.k,x.e,x.o⟩=p x:=rfl;cases hp:p x;simp only[Hp.get,if_true,hx,hp];exact M0 (λy hy=>hr y (List.mem_filter.1 hy).1);simp[Hp.get,hx,hp];cases hp:p x;simp only[Hp.get,hk,if_false];exact ih;simp only[if_true,Hp.get,hk,if_false];exact ih
theorem U0{h h':Hp}(hn:jM h'=true)(hk:∀q,h.get q≠none->h'.get q≠none)(q:Nat):(cM h (chg h h')).get q=h'.get q:=by
 unfold chg;rw[iL q (rV hn),DW q hn];cases hq:h'.get q with
 |none=>
  simp only;cases hh:h.get q with
  |none=>rfl
  |some p=>exact absurd hq (hk q (by rw[hh];simp))
 |some p=>obtain⟨e,o⟩:=p;simp only;cases hc:uL (h.get q) (some (e,o));simp;simp[BK hc]
theorem aDe{h h':Hp}(hn:jM h'=true){q:Nat}(he:h'.get q=h.get q):q ∉ (chg h h').map (·.k):=by
 intro hm;obtain⟨x,hx,rfl⟩:=List.mem_map.1 hm;have hx':=List.mem_filter.1 hx;have hg:h'.get x.k=some (x.e,x.o):=by
  obtain⟨hx1,_⟩:=hx';clear hx hm he
  induction h' with
  |nil=>cases hx1
  |cons y r ih=>
   simp only[jM,aG]at hn;rcases List.mem_cons.1 hx1 with rfl|hx1;simp[Hp.get];have:¬x.k=y.k:=by have:=eG.1 hn.1 x hx1;simpa using this
   have h2:¬y.k=x.k:=λe=>this e.symm;rw[Hp.get,if_neg h2];exact ih hn.2 hx1
 rw[<-he,hg,EE]at hx';simp at hx'
section
variable{pg:Pg}{kb:Nat}
theorem XY{f s:Nat}{h:Hp}{cs args:List AV}{P:AV->Hp->Prop}{Q:AV->Eff->Prop}{t:Tok Q}{B:Nat}(hB:iP kb s (args++cs)=B)(hr:gH pg f (args++cs) B h (λr h'=>P r h'/\oN h'=true/\∀q,h.get q≠none->h'.get q≠none))
  (hq:∀r h' pa,P r h'->(∀q,(cM h pa).get q=h'.get q)->(∀q,h'.get q=h.get q->q ∉ pa.map (·.k))->Q r (.all pa)):XO pg kb .callvr s h (.fn f cs::args) Q t:=by
 obtain⟨r,h',⟨n,e⟩,hp,hn,hk⟩:=hr;subst hB;have hn':=FC hn;refine⟨n,r,.all (chg h h'),?_,hq r h' _ hp (U0 hn' hk) (λq he=>aDe hn' he)⟩;simp only[opR,mZ,e]
 have hall:((h++h').all λx=>uL ((cM h (chg h h')).get x.k) (h'.get x.k))=true:=by rw[eG];intro x _;rw[U0 hn' hk];exact EE _
 unfold chg at hall ⊢;rw[if_pos hall]
end
end
section
def gV(k:aA)(P:List Sp)(at_:Int):List Sp:=(cY at_ (aF k)).map λw=>plc P w.toNat
def zB(l:List Sp):Int:=l.foldl (λn q=>mxI n (q.1+q.2)) 0
def MF(k:aA)(P:List Sp)(F:List Sp->Int):List Int:=(List.range (k.list.es.length+2)).map fun(j:Nat)=>F (gV k P ((j:Int)-1))
def lK(k:aA)(ds:List Val)(p:cB)(F:List Sp->Int)(r:AV):Prop:=
 if dZ k ds p=0 then ∃nl cl,r = .tup [.sl nl ((MF k p.P F).map aJ) cl,.int .i64 0] else r = .tup [.sl true [] true,.int .i64 (dZ k ds p)]
def MU(v:AV)(h:Hp)(r:AV)(h':Hp):Prop:=(r=v/\∀q,q<2228224->q≠29->h'.get q=h.get q)/\oN h'=true/\∀q,h.get q≠none->h'.get q≠none
theorem uE{h hp:Hp}(k e:Nat)(o:Ob)(hk:∀q,h.get q≠none->hp.get q≠none):∀q,h.get q≠none->(hp.put k e o).get q≠none:=λq hq=>by rw[aD];split;simp;exact hk q hq
def DV(pk:Int)(l:List Sp):Prop:=∀q∈l,0<=q.1/\0<=q.2/\q.1+q.2<=pk
theorem zL{h:Hp}{k0:Nat}{v:AV}{es:List Sp}(o:Own h k0 2 true v (es.map bQ)):(es=[]/\∃nl cl,v = .sl nl [] cl)\/∃e,v = .rf k0 e 0 es.length es.length/\h.get k0=some (e,.blk (bF es) 2 true false false):=by
 rcases o with ⟨hn,nl,cl,rfl,_⟩|⟨e,cs,rfl,hg,hu⟩
 exact .inl ⟨by simpa using hn,nl,cl,rfl⟩;rw[rO]at hu;cases hu;exact .inr ⟨e,by rw[aI],hg⟩
section
variable{pg:Pg}
set_option maxRecDepth 100000 in
theorem c681(hf:pg.fs 681=some NQ)(pk:Int)(hpk:pk<=1000000)(h:Hp)(ha:oN h=true)(v:AV)(es:List Sp)(ho:Own h 29 2 true v (es.map bQ))(hb:es.length<=big)(hg:DV pk es) :
  gH pg 681 [v] 2228224 h (MU (.int .i64 (zB es)) h):=by
 unfold MU;refine gH.ofX hf ?_;unfold NQ;rcases zL ho with ⟨rfl,nl,cl,rfl⟩|⟨e,rfl,g⟩
 refine Wk ?_;refine aK ([]:List Sp) (λd r env hp=>env=yG (.int .i64 0) (.sl nl [] cl) (.int .i64 0) (.int .i64 d.length)/\(∀q,q<2228224->q≠29->hp.get q=h.get q)/\oN hp=true/\∀q,h.get q≠none->hp.get q≠none) ?_ ?_ ?_;exact⟨rfl,λ_ _ _=>rfl,ha,λ_ h=>h⟩;rintro env hp ⟨rfl,hq,ha2,hk2⟩;simp only[CD,yG,go_sem,seval];exact⟨⟨rfl,hq⟩,ha2,hk2⟩;intro d x r env hp hes;simp at hes;refine Wk ?_;refine aK es (λd r env hp=>∃n:Int,env=yG (.int .i64 n) (.rf 29 e 0 es.length es.length) (.int .i64 es.length) (.int .i64 d.length)/\hp.get 29=some (e,.blk (bF es) 2 true false false)/\zB es=r.foldl (λn q=>mxI n (q.1+q.2)) n/\(∀q,q<2228224->q≠29->hp.get q=h.get q)/\oN hp=true/\∀q,h.get q≠none->hp.get q≠none) ?_ ?_ ?_;exact⟨0,rfl,g,rfl,λ_ _ _=>rfl,ha,λ_ h=>h⟩;rintro env hp ⟨n,rfl,g,hI,hq,ha2,hk2⟩;simp only[CD,yG,bA,go_sem,seval];exact⟨⟨hI.symm,hq⟩,ha2,hk2⟩;rintro d x r env hp hes ⟨n,rfl,g,hI,hq,ha2,hk2⟩;have hk3:=uE 2228225 (hp.next 2228225) (.blk [.int .i64 x.1,.int .i64 x.2] 2 true true false) (uE 2228225 (hp.next 2228225) (.blk [.int .i64 0,.int .i64 0] 2 true true false) hk2);simp only[aD]at hk3;obtain⟨hget,f1,f2,ew⟩:=cX hes hb;obtain⟨x1,x2,x3⟩:=hg x (by rw[hes];simp);have w1:wr .i64 (x.1+x.2)=x.1+x.2:=aO (by omega) (by omega);obtain⟨a1,a2⟩:=T9 es d.length x hget;simp only[CD,yG,f1,f2,g,a1,a2,w1,mx2,ew,go_sem,seval];exact⟨mxI n (x.1+x.2),rfl,hI,λq h1 h2=>by rw[if_neg (by omega),if_neg (by omega)];exact hq q h1 h2,j1 (j1 ha2),hk3⟩
theorem wF{pk:Int}:∀(l:List Sp)(f e:Int),DV pk l->0<=f->f<=e->e<=pk->0<=(oY f e l).1/\(oY f e l).1<=(oY f e l).2/\(oY f e l).2<=pk
 |[],f,e,_,h1,h2,h3=>⟨h1,h2,h3⟩
 |q::r,f,e,hg,h1,h2,h3=>by obtain⟨q1,q2,q3⟩:=hg q (by simp);have hr:DV pk r:=λx hx=>hg x (by simp[hx]);rw[oY];split;exact wF r f e hr h1 h2 h3;refine wF r _ _ hr ?_ ?_ ?_<;>simp only[mxI]<;>repeat' split<;>omega
set_option maxRecDepth 100000 in
set_option maxHeartbeats 4000000 in
theorem c682(O:aIr pg)(hf:pg.fs 682=some NP)(p:cB)(hp0:0<=p.pk)(hpk:p.pk<=1000000)(h:Hp)(ha:oN h=true)(v:AV)(es:List Sp)(ho:Own h 29 2 true v (es.map bQ))(hb:es.length<=big)(hg:DV p.pk es) :
  gH pg 682 [v,.fp p.av] 2228224 h (MU (.int .i64 (jD es p.pk.toNat)) h):=by
 unfold MU;rw[cB.avc];refine gH.ofX hf ?_;unfold NP;have w0:wr .i64 (0+p.pk)=p.pk:=by rw[Int.zero_add];exact aO (by omega) (by omega)
 have w00:wr .i64 (p.pk-0)=p.pk:=by rw[Int.sub_zero];exact aO (by omega) (by omega)
 rcases zL ho with ⟨rfl,nl,cl,rfl⟩|⟨e,rfl,g⟩
 refine Wk ?_;refine pK (.inl rfl) rfl (O.sortN _ _ nl cl) (Wk ?_);refine aK ([]:List Sp) (λd r env hp=>env=vM (.fp (.agg [.sl p.n1 (p.P.map bQ) p.c1,.sl p.n2 (p.C.map aJ) p.c2,.int .i64 p.pk])) (.int .i64 0) (.int .i64 0) (.sl nl [] cl) (.int .i64 0) (.int .i64 d.length)/\hp=h) ?_ ?_ ?_;exact⟨rfl,rfl⟩;rintro env hp ⟨rfl,rfl⟩;simp only[yF,vM,w0,w00,go_sem,seval];have:=xH (L:=[]) (pk:=p.pk) (by simp) [] 0 0 (by simp) (by simp) .nil (Int.le_refl _) hp0 rfl;simp only[oY]at this;refine⟨⟨?_,λ_ _ _=>trivial⟩,ha,λ_ h=>h⟩;rw[<-this];simp;intro d x r env hp hes;simp at hes
 obtain⟨l',hperm,hsort,hr⟩:=O.sort (iP 2228224 1 [.rf 29 e 0 es.length es.length,.fn 683 []]) h 29 e es g hb (λq hq=>by
  obtain⟨q1,q2,q3⟩:=hg q hq;simp only[rL,Bool.or_eq_false_iff,fL];omega)
 have hlen:l'.length=es.length:=hperm.length_eq;have hb':l'.length<=big:=by omega
 have hg':DV p.pk l':=λq hq=>hg q (hperm.mem_iff.1 hq);have hun:jD es p.pk.toNat=jD l' p.pk.toNat:=FV (λq=>hperm.mem_iff.symm) _;have hsc:=xH (L:=l') (pk:=p.pk) hg' l' 0 0 (λ_ hq=>hq) (λ_ hq => .inl hq) hsort (Int.le_refl _) hp0 rfl;have hbd:=wF l' 0 0 hg' (Int.le_refl _) (Int.le_refl _) hp0;rw[hun,<-hsc];clear hun hsc;refine Wk ?_;refine pK (.inl rfl) rfl hr ?_;rw[<-hlen];clear hr;refine Wk ?_
 refine aK l' (λd r env hp=>∃f e2:Int,env=vM (.fp (.agg [.sl p.n1 (p.P.map bQ) p.c1,.sl p.n2 (p.C.map aJ) p.c2,.int .i64 p.pk])) (.int .i64 f) (.int .i64 e2) (.rf 29 e 0 l'.length l'.length) (.int .i64 l'.length) (.int .i64 d.length) /\
  hp.get 29=some (e,.blk (bF l') 2 true false false)/\oY 0 0 l'=oY f e2 r/\(0<=f/\f<=e2/\e2<=p.pk)/\(∀q,q<2228224->q≠29->hp.get q=h.get q)/\oN hp=true/\∀q,h.get q≠none->hp.get q≠none) ?_ ?_ ?_
 exact⟨0,0,rfl,by simp only[go_sem,seval],rfl,⟨Int.le_refl _,Int.le_refl _,hp0⟩,λq h1 h2=>by rw[aD,if_neg (Ne.symm h2)],j1 ha,uE _ _ _ (λ_ h=>h)⟩;rintro env hp ⟨f,e2,rfl,g2,hI,⟨i1,i2,i3⟩,hq,ha2,hk2⟩;have wa:wr .i64 (f+p.pk)=f+p.pk:=aO (by omega) (by omega);have wb:wr .i64 (f+p.pk-e2)=f+p.pk-e2:=aO (by omega) (by omega);simp only[yF,vM,bA,wa,wb,go_sem,seval];refine⟨⟨?_,hq⟩,ha2,hk2⟩;rw[hI];rfl;rintro d x r env hp hes ⟨f,e2,rfl,g2,hI,⟨i1,i2,i3⟩,hq,ha2,hk2⟩;have hk3:=uE 2228229 (hp.next 2228229) (.blk [.int .i64 x.1,.int .i64 x.2] 2 true true false) (uE 2228229 (hp.next 2228229) (.blk [.int .i64 0,.int .i64 0] 2 true true false) hk2);simp only[aD]at hk3;obtain⟨hget,f1,f2,ew⟩:=cX hes hb';obtain⟨x1,x2,x3⟩:=hg' x (by rw[hes];simp);obtain⟨a1,a2⟩:=T9 l' d.length x hget;rw[oY]at hI;have hq2:∀q,q<2228224->¬q=29->¬(2228229=q):=λq h1 _=>by omega
 cases b0:decide (x.2=0)
 case true=>rw[if_pos (aM b0)]at hI;simp only[yF,vM,f1,f2,g2,a1,a2,b0,ew,go_sem,seval];exact⟨f,e2,rfl,hI,⟨i1,i2,i3⟩,λq h1 h2=>by rw[if_neg (by omega),if_neg (by omega)];exact hq q h1 h2,j1 (j1 ha2),hk3⟩
 have b0':=bH b0;rw[if_neg b0']at hI;have w1:wr .i64 (x.1+x.2)=x.1+x.2:=aO (by omega) (by omega);have w2:wr .i64 (x.1-e2)=x.1-e2:=aO (by omega) (by omega);have w3:wr .i64 (f+(if x.1-e2<0 then 0 else x.1-e2))=f+(if x.1-e2<0 then 0 else x.1-e2):=aO (by split<;>omega) (by split<;>omega);simp only[yF,vM,f1,f2,g2,a1,a2,b0,w1,w2,mx2,w3,ew,go_sem,seval];refine⟨f+mxI (x.1-e2) 0,mxI e2 (x.1+x.2),rfl,hI,?_,λq h1 h2=>by rw[if_neg (by omega),if_neg (by omega)];exact hq q h1 h2,j1 (j1 ha2),hk3⟩;simp only[mxI];refine⟨?_,?_,?_⟩<;>repeat' split<;>omega
theorem vK{h:Hp}{k0 esz:Nat}{ag:Bool}{v:AV}{es:List AV}(o:Own h k0 esz ag v es)(he:∀x∈es,El esz ag x)(n:Int):∃nl cl,Tev.conv h (.tup [v,.int .i64 n])=some (.tup [.sl nl es cl,.int .i64 n]):=by
 rcases o with ⟨rfl,nl,cl,rfl,_⟩|⟨e,cs,rfl,hg,hu⟩
 exact⟨nl,cl,rfl⟩;have hsn:Tev.snap 63 h _=_:=xG he hg hu 61 _ rfl;refine⟨false,false,?_⟩;simp only[Tev.conv,depth,cF,bD,eK,↓hsn,go_sem,seval]
theorem wO(f:Nat->Int)(j:Nat):(List.range (j+1)).map f=(List.range j).map f++[f j]:=by simp[List.range_succ]
theorem oD{k:aA}{ds:List Val}{p:cB}(hx:dU k ds=0)(h:fF k ds p=true)(at_:Int):DV p.pk (gV k p.P at_):=by
 intro q hq;obtain⟨w,hw,rfl⟩:=List.mem_map.1 hq;have hfl:=WK hx h at_ w hw;simp only[fF,aG,aY,fB,fL]at h;obtain⟨⟨⟨⟨b1,b2⟩,b3⟩,b4⟩,b5⟩:=h;obtain⟨_,hsl,_⟩:=qG (ds:=ds) (dS (fR hx).1);obtain⟨u,u1,u2,u3⟩:=lO.1 hw;have hl:=(cD.1 u2).1;simp only[jN,aG,fB,fL]at u3;have:=CA (sz:=iI k ds) (sp:=aF k) (pk:=p.pk) p.P 0 w.toNat b5 (by omega);rw[Nat.zero_add]at this;have hs:¬(plc (aF k) w.toNat).1 = -2:=by rw[DM u2];exact u3.1.1
 simp only[okP,if_neg hs,aG,aY]at this;have:=zD hx w.toNat;omega
set_option maxRecDepth 100000 in
set_option maxHeartbeats 8000000 in
theorem c680(hf:pg.fs 680=some EO)(h694:pg.fs 694=some yE)(k:aA)(h677:Ret pg 677 [k.av] (.fn 694 [.fp k.av]))(nl cl:Bool)(ds:List Val)(p:cB)(h676:Ret pg 676 [k.av,p.av,.sl nl (ds.map Val.av) cl] (.int .i64 (dZ k ds p)))
  (h11:∀at_:Int,bE pg 11 [k.av,.int .i64 at_] (kM k at_)) (g:Nat) (cs:List AV) (hcs:treeL cs=true) (F:List Sp->Int)
  (hbs:∀e n,iP 0 33 (.rf 29 e 0 n n::cs)=2228224) (hbn:∀nl cl,iP 0 33 (.sl nl [] cl::cs)=2228224)
  (hF:0<=p.pk->p.pk<=1000000->∀(h:Hp)(v:AV)(es:List Sp),oN h=true->Own h 29 2 true v (es.map bQ)->es.length<=big->DV p.pk es->gH pg g (v::cs) 2228224 h (MU (.int .i64 (F es)) h)) :
  bE pg 680 [k.av,p.av,.sl nl (ds.map Val.av) cl,.fn g cs] (lK k ds p F):=by
 have tlP:=gI p.P;have hcb:AV.tree (.fn g cs)=true:=by simpa[AV.tree] using hcs
 rw[aA.avc]at h676;rw[cB.avc]at h676;unfold lK;by_cases hx:dZ k ds p=0
 case neg=>
  have b0:decide (dZ k ds p=0)=false:=by simp[hx]
  simp only[if_neg hx];rw[aA.avc,cB.avc];refine bE.ofX hf ?_;unfold EO;refine Wk ?_;refine aB h676 ?_;simp only[b0,go_sem,seval]
 simp only[if_pos hx];rw[hx]at h676;have hcx:dU k ds=0:=by by_cases h:dU k ds=0;exact h;rw[dZ,if_neg h]at hx;exact absurd hx h
 have hfb:fF k ds p=true:=by rw[dZ,if_pos hcx]at hx;cases hb:fF k ds p;rw[hb]at hx;simp at hx;rfl
 have hgood:=oD hcx hfb;have hc:=(fR hcx).1;have ok:=dS hc;obtain⟨_,hsl,hzl⟩:=qG (ds:=ds) ok;simp only[fF,aG,aY,fB,fL]at hfb;obtain⟨⟨⟨⟨b1,b2⟩,b3⟩,b4⟩,b5⟩:=hfb;have hF:=hF (by omega) (by omega);have hPV:p.P.length=k.values.es.length:=by omega
 have hPb:=p.bP;have hLb:=k.list.ok;have hll:∀at_,(cY at_ (aF k)).length<=big:=λat_=>by have:=(iV at_ _ (aF k) rfl).2;omega
 rw[aA.avc,cB.avc];refine bE.ofH (gH.ofX hf ?_);unfold EO;rw[aA.avc]at h677;simp only[hcb,go_sem,seval];refine aB h676 (Wk ?_);refine aB h677 (Wk ?_)
 refine IB h694 k hc h11 (by rw[aA.avc];rfl) (λj hp=>oN hp=true/\hp.get 1=some (0,.blk k.cells 6 true true false)/\hp.get 5=some (0,.blk p.cells 3 true true false)/\hp.get 9=some (0,.blk [.fn g cs] 1 false true false) /\
  ∃v,hp.get 17=some (0,.blk [v] 1 false true false)/\Own hp 37 1 false v (((List.range j).map fun(i:Nat)=>F (gV k p.P ((i:Int)-1))).map aJ)) ?_ ?_ ?_ ?_
 rintro j hp e0 o0 ⟨ga,g1,g5,g9,v,g17,ho⟩;have hh:∀q,q≠25->(hp.put 25 e0 o0).get q=hp.get q:=λq hq=>by rw[aD,if_neg (Ne.symm hq)]
 exact⟨j1 ga,(hh _ (by decide)).trans g1,(hh _ (by decide)).trans g5,(hh _ (by decide)).trans g9,v,(hh _ (by decide)).trans g17,ho.mono (hh _ (by decide))⟩;exact⟨by rfl,by simp only[aD,go_sem,seval];rfl,by simp only[aD,go_sem,seval];rfl,by simp only[aD,go_sem,seval],.sl true [] true,by simp only[aD,go_sem,seval],Own.nil _ _ _ _ _ _ rfl⟩;intro j n3 z3 hj hp;have hgd:=hgood ((j:Int)-1);have hlb:=hll ((j:Int)-1);have hsucc:=wO (fun(i:Nat)=>F (gV k p.P ((i:Int)-1))) j;have hacc:((List.range j).map fun(i:Nat)=>F (gV k p.P ((i:Int)-1))).length=j:=by simp
 have hlv:∀w∈cY ((j:Int)-1) (aF k),0<=w/\w.toNat<p.P.length:=λw hw=>by obtain⟨u,u1,u2,u3⟩:=lO.1 hw;have:=(cD.1 u2).1;exact⟨u1,by omega⟩
 simp only[gV]at hsucc hgd ⊢;have hlvj:cY ((j:Int)-1) (aF k)=cY ((j:Int)-1) (aF k):=rfl;generalize hlvd:cY ((j:Int)-1) (aF k)=lv at hlvj hgd hlb hlv ⊢;clear hlvj hsucc hacc;generalize hat:(j:Int)-1=at_ at hlvd ⊢;refine Wk ?_;rintro hp1 ⟨ga,g1,g5,g9,v,g17,ho⟩;have hlv2:(lv.map λw=>plc p.P w.toNat).length<=big:=by simpa using hlb
 refine aK lv (λd r env hp2=>∃v2,env=CE (.pt 5 0 0) (.pt 9 0 0) (.pt 17 0 0) v2 (.sl n3 (lv.map aJ) z3) (.int .i64 lv.length) (.int .i64 d.length)/\oN hp2=true/\(∀q,q≠29->hp2.get q=hp1.get q) /\
  Own hp2 29 2 true v2 ((d.map λw=>plc p.P w.toNat).map bQ)) ?_ ?_ ?_
 exact⟨_,rfl,ga,λ_ _=>rfl,Own.nil _ _ _ _ _ _ rfl⟩;rintro env hp2 ⟨v2,rfl,ga2,hh,ho2⟩;have g1':=(hh 1 (by decide)).trans g1;have g5':=(hh 5 (by decide)).trans g5;have g9':=(hh 9 (by decide)).trans g9;have g17':=(hh 17 (by decide)).trans g17;have g25':=hh 25 (by decide);have hob:iP 0 33 (v2::cs)=2228224:=by
  rcases zL ho2 with ⟨_,nl',cl',rfl⟩|⟨e,rfl,_⟩
  exact hbn _ _;exact hbs _ _
 simp only[yH,CE,bA,g17',g9',go_sem,seval];refine XY hob (hF hp2 v2 _ ga2 ho2 hlv2 hgd) ?_;rintro r h3 pa ⟨rfl,hq3⟩ hget hnot;have hn17:17 ∉ pa.map (·.k):=hnot 17 (hq3 17 (by decide) (by decide));have hk:∀q,q<2228224->q≠29->(cM hp2 pa).get q=hp2.get q:=λq h1 h2=>(hget q).trans (hq3 q h1 h2);have ga3:=qE (pa:=pa) ga2;have hd:z7 (pa.map (·.k)) [17]=true:=by simp only[z7,eG];intro x hx;have:x≠17:=λe=>hn17 (e ▸ hx);simp[this]
 have hap:Eff.app hp2 (.all pa)=cM hp2 pa:=rfl;rw[hap];generalize cM hp2 pa=H3 at hk ga3 ⊢;clear hnot hget hap;refine Wk ?_;refine eF (kb:=0) (s:=37) (bytes:=8) (ho.mono ((hk 37 (by decide) (by decide)).trans (hh 37 (by decide)))) (El.ints _) (xs:=[.int .i64 (F (lv.map λw=>plc p.P w.toNat))]) (by intro z hz;simp at hz;subst hz;exact⟨rfl,rfl,rfl⟩) (by simp only[aI,List.length_range,List.length_singleton];simp only[big]at hLb;omega) (by decide) ?_;intro v' rd pa2 p1 hk1 hpa2;have ga4:oN (Eff.app H3 (.pat rd pa2))=true:=qE (pa:=pa2) ga3;have hh4:∀q,q≠37->q<2228224->q≠29->(Eff.app H3 (.pat rd pa2)).get q=hp2.get q:=λq h0 h1 h2=>(hk1 q h0).trans (hk q h1 h2);generalize Eff.app H3 (.pat rd pa2)=H4 at p1 ga4 hh4 ⊢;have k17:=(hh4 17 (by decide) (by decide) (by decide)).trans g17';obtain⟨z1,z2,z4⟩:=p1.one;simp only[k17,z1,z2,z4,go_sem,seval];have hfj:F (List.map (λw=>plc p.P w.toNat) (cY ((j:Int)-1) (aF k)))=F (lv.map λw=>plc p.P w.toNat):=by rw[hat,hlvd]
 refine⟨?_,(hh4 25 (by decide) (by decide) (by decide)).trans g25',j1 ga4,(hh4 1 (by decide) (by decide) (by decide)).trans g1',(hh4 5 (by decide) (by decide) (by decide)).trans g5',(hh4 9 (by decide) (by decide) (by decide)).trans g9',v',rfl,?_⟩;simp only[hU,jI,R.apart,Eff.apart,hd];simp (config:={decide:=true}) [z7,R.uses,X.tmp];rw[List.map_append,List.map_append,List.map_singleton,List.map_singleton,hfj];exact p1.mono (by simp only[go_sem,seval]);rintro d x r env hp2 hes ⟨v2,rfl,ga2,hh,ho2⟩;obtain⟨hget',f1,f2,ew⟩:=cX hes hlb;obtain⟨hx0,hxP⟩:=hlv x (by rw[hes];simp);obtain⟨u,rfl⟩:=fM hx0;rw[Int.toNat_natCast]at hxP;have lu:((u:Int)<(p.P.length:Int))=True:=eq_true (by omega);have hu0:(0<=(u:Int))=True:=eq_true (by omega);have hu':=o7 hxP;have g5':=(hh 5 (by decide)).trans g5;simp only[cB.cells]at g5';have hdl:d.length<=big:=by have:=congrArg List.length hes;simp only[bX,List.length_cons]at this;omega
 simp only[yH,CE,f1,f2,hget',g5',lu,hu0,hu',go_sem,seval];refine eF (kb:=0) (s:=29) ho2 (El.spl _) (xs:=[bQ (plc p.P u)]) (by intro z hz;simp at hz;subst hz;exact⟨rfl,rfl,rfl⟩) (by simp only[aI,List.length_singleton];simp only[big]at hdl;omega) (by decide) ?_;intro v' rd pa2 p1 hk1 hpa2;have ga4:oN (Eff.app hp2 (.pat rd pa2))=true:=qE (pa:=pa2) ga2;generalize Eff.app hp2 (.pat rd pa2)=H4 at p1 ga4 hk1 ⊢;simp only[ew,go_sem,seval];exact⟨v',rfl,ga4,λq hq=>(hk1 q hq).trans (hh q hq),by rw[List.map_append,List.map_append];exact p1⟩;rintro hp ⟨_,g1,g5,g9,v,g17,ho⟩;obtain⟨nl',cl',hcv⟩:=vK ho (El.ints _) 0;simp only[g17,go_sem,seval];exact⟨_,hcv,nl',cl',rfl⟩
end
end
section
def qL(k:aA)(n:Nat)(vs:List AV):Prop:=vs.length=n/\∀i,i<n->∃nl cl,vs[i]?=some (.sl nl ((cY ((i:Int)-1) (aF k)).map aJ) cl)
theorem QB(k:aA):qL k 0 []:=⟨rfl,λi h=>by omega⟩
theorem MP{k:aA}{n:Nat}{vs:List AV}(h:qL k n vs)(nl cl:Bool):qL k (n+1) (vs++[.sl nl ((cY ((n:Int)-1) (aF k)).map aJ) cl]):=by
 refine⟨by simp[h.1],λi hi=>?_⟩;by_cases hin:i<n;rw[List.getElem?_append_left (by rw[h.1];exact hin)];exact h.2 i hin;have:i=n:=by omega
 subst this;exact⟨nl,cl,by rw[tH (by rw[h.1];exact Nat.le_refl _),h.1];simp⟩
theorem QC{k:aA}{n:Nat}{vs:List AV}(h:qL k n vs):∀x∈vs,∃nl cl,∃l:List Int,x = .sl nl (l.map aJ) cl:=by intro x hx;obtain⟨i,hi,rfl⟩:=List.mem_iff_getElem.1 hx;obtain⟨nl,cl,e⟩:=h.2 i (by rw[<-h.1];exact hi);rw[aX hi]at e;exact⟨nl,cl,_,Option.some.inj e⟩
theorem El.sli(nl cl:Bool)(l:List Int):El 1 false (.sl nl (l.map aJ) cl):=⟨rfl,by simp[AV.cells,cH,AV.one],by simp only[AV.tree];exact bJ (f:=aJ) (λ_=>rfl) l⟩
theorem oS{k:aA}{n:Nat}{vs:List AV}(h:qL k n vs):∀x∈vs,El 1 false x:=by intro x hx;obtain⟨nl,cl,l,rfl⟩:=QC h x hx;exact El.sli nl cl l
theorem qU{esz:Nat}{ag:Bool}:∀{es:List AV},(∀x∈es,El esz ag x)->treeL es=true
 |[],_=>rfl
 |x::r,he=>by simp only[treeL,aG];exact⟨(he x (by simp)).tree,qU (λy hy=>he y (dH _ hy))⟩
theorem Q6{h:Hp}{k1 k2:Nat}{v1 v2:AV}{e1 e2:List AV}(hk:k1≠k2)(o1:Own h k1 1 false v1 e1)(he1:∀x∈e1,El 1 false x)(o2:Own h k2 1 false v2 e2)(he2:∀x∈e2,El 1 false x)(n:Int) :
  ∃n1 c1 n2 c2,Tev.conv h (.tup [v1,v2,.int .i64 n])=some (.tup [.sl n1 e1 c1,.sl n2 e2 c2,.int .i64 n]):=by
 rcases o1 with ⟨rfl,nl,cl,rfl,_⟩|⟨e,cs,rfl,hg,hu⟩
 rcases o2 with ⟨rfl,nl2,cl2,rfl,_⟩|⟨e',cs',rfl,hg',hu'⟩
 exact⟨nl,cl,nl2,cl2,rfl⟩;have hsn':Tev.snap 63 h _=_:=xG he2 hg' hu' 61 _ rfl;refine⟨nl,cl,false,false,?_⟩;simp only[Tev.conv,depth,cF,bD,eK,↓hsn',go_sem,seval];have hsn:Tev.snap 63 h _=_:=xG he1 hg hu 61 _ rfl;rcases o2 with ⟨rfl,nl2,cl2,rfl,_⟩|⟨e',cs',rfl,hg',hu'⟩
 refine⟨false,false,nl2,cl2,?_⟩;simp only[Tev.conv,depth,cF,bD,eK,↓hsn,go_sem,seval];have hsn':Tev.snap 63 h _=_:=xG he2 hg' hu' 61 _ rfl;refine⟨false,false,false,false,?_⟩;simp[Tev.conv,depth,cF,bD,eK,↓hsn,↓hsn',go_sem,seval,hk]
def zC(k:aA)(r:AV):Prop:=
 if (cP k).2=0 then ∃nl cl vs n2 c2,∃ls:List Int,qL k (k.list.es.length+2) vs/\r = .tup [.sl nl vs cl,.sl n2 (ls.map aJ) c2,.int .i64 0] else r = .tup [.sl true [] true,.sl true [] true,.int .i64 22]
def l3(k:aA)(ds:List Val)(p:cB)(r:AV):Prop:=
 if dZ k ds p=0 then ∃nl cl vs,qL k (k.list.es.length+2) vs/\r = .tup [.sl nl vs cl,.int .i64 0] else r = .tup [.sl true [] true,.int .i64 (dZ k ds p)]
section
variable{pg:Pg}
set_option maxRecDepth 100000 in
set_option maxHeartbeats 8000000 in
theorem c695(hf:pg.fs 695=some NN)(k:aA)(h12:∀at_:Int,bE pg 12 [k.av,.int .i64 at_] (kM k at_))(h263:bE pg 263 [k.av] (Q8 k)):bE pg 695 [k.av] (zC k):=by
 obtain⟨r0,hr0,hs0⟩:=h263;rw[aA.avc]at hr0 ⊢;refine bE.ofX hf ?_;unfold NN;rcases jH (k:=k) with hc|hc
 case inr=>rw[Q8,if_neg (by omega)]at hs0;subst hs0;refine Wk ?_;refine aB hr0 (Wk ?_);rw[zC,if_neg (by omega)]
 rw[Q8,if_pos hc]at hs0;obtain⟨nl0,cl0,_,rfl⟩:=hs0;have hlb:=k.list.ok;have hcl:(kT k).length=k.list.es.length:=by rw[EJ];simp[oF]
 generalize kT k=cs at hcl hr0;have hfin:∀r,(∃nl cl vs n2 c2,∃ls:List Int,qL k (k.list.es.length+2) vs/\r = .tup [.sl nl vs cl,.sl n2 (ls.map aJ) c2,.int .i64 0])->zC k r:=by intro r hr;rw[zC,if_pos hc];exact hr
 obtain⟨R,hR⟩:∃R,R=List.range (k.list.es.length+2):=⟨_,rfl⟩
 have hRl:R.length=k.list.es.length+2:=by rw[hR,List.length_range]
 refine Wk ?_;refine aB hr0 (Wk ?_)
 refine aK R (λd r env hp=>∃v1 v2 vs,∃ls:List Int,env=yD (.pt 1 0 0) (.sl nl0 (cs.map aJ) cl0) v1 v2 (.int .i64 ((d.length:Int)-1))/\hp.get 1=some (0,.blk k.cells 6 true true false) /\
  Own hp 13 1 false v1 vs/\Own hp 17 1 false v2 (ls.map aJ)/\qL k d.length vs/\ls.length=d.length) ?_ ?_ ?_
 exact⟨_,_,[],[],rfl,rfl,Own.nil _ _ _ _ _ _ rfl,Own.nil _ _ _ _ _ _ rfl,QB k,rfl⟩;rintro env hp ⟨v1,v2,vs,ls,rfl,g1,o1,o2,hl,hll⟩;simp only[aA.cells,Sl.av]at g1;rw[hRl]at hl;have e1:decide ((R.length:Int)-1<=(k.list.es.length:Int))=false:=decide_eq_false (by omega);obtain⟨n1,c1,n2,c2,hcv⟩:=Q6 (by decide) o1 (oS hl) o2 (El.ints _) 0;simp only[JJ,yD,e1,g1,aI,go_sem,seval];exact⟨_,hcv,hfin _ ⟨n1,c1,vs,n2,c2,ls,hl,rfl⟩⟩;rintro d x r env hp hes ⟨v1,v2,vs,ls,rfl,g1,o1,o2,hl,hll⟩;rw[hR]at hes;obtain⟨rfl,hlt⟩:=gT hes;have hdl:(d++[d.length]).length=d.length+1:=by simp
 have e1:decide ((d.length:Int)-1<=(k.list.es.length:Int))=true:=by simp;omega
 have hw:wr .i64 ((d.length:Int)-1+1)=((d++[d.length]).length:Int)-1:=by rw[aO (by omega) (by simp only[big]at hlb;omega)];rw[hdl];omega
 obtain⟨r11,a11,s11⟩:=h12 ((d.length:Int)-1);rw[aA.avc]at a11;unfold kM at s11;rw[if_pos hc,if_neg (by omega)]at s11;obtain⟨n3,c3,rfl⟩:=s11;have hls:=MP hl n3 c3;have hel:=oS hl;have hel2:=El.sli n3 c3 (cY ((d.length:Int)-1) (aF k));have hvl:=hl.1;clear hes;have g1':=g1;simp only[aA.cells,Sl.av]at g1;simp only[JJ,yD,e1,g1,aI,go_sem,seval];refine aB a11 (Wk ?_);refine eF (kb:=0) (s:=13) o1 hel (xs:=[.sl n3 ((cY ((d.length:Int)-1) (aF k)).map aJ) c3]) (by intro z hz;simp at hz;subst hz;exact hel2) (by simp only[List.length_singleton];simp only[big]at hlb;omega) (by decide) ?_;intro v1' rd pa p1 hk1 hpa;have k1:=(hk1 1 (by decide)).trans g1';have o2':=o2.mono (hk1 17 (by decide));generalize Eff.app hp (.pat rd pa)=H1 at p1 k1 o2' hk1 ⊢;have fin:∀z:Int,∀H2 v2',Own H2 17 1 false v2' ((ls.map aJ)++[aJ z])->(∀q,q≠17->H2.get q=H1.get q) ->
  ∃v1 v2 vs,∃ls:List Int,yD (.pt 1 0 0) (.sl nl0 (cs.map aJ) cl0) v1' v2' (.int .i64 (((d++[d.length]).length:Int)-1))=yD (.pt 1 0 0) (.sl nl0 (cs.map aJ) cl0) v1 v2 (.int .i64 (((d++[d.length]).length:Int)-1))/\H2.get 1=some (0,.blk k.cells 6 true true false) /\
   Own H2 13 1 false v1 vs/\Own H2 17 1 false v2 (ls.map aJ)/\qL k (d++[d.length]).length vs/\ls.length=(d++[d.length]).length:=by
  intro z H2 v2' p2 hk2;exact⟨v1',v2',_,ls++[z],rfl,(hk2 1 (by decide)).trans k1,p1.mono (hk2 13 (by decide)),by rw[List.map_append,List.map_singleton];exact p2,by rw[hdl];exact hls,by simp[hll]⟩
 have last:∀z:Int,∀{Q:AV->Eff->Prop}{t:Tok Q},(∀v' rd pa,Own (Eff.app H1 (.pat rd pa)) (0+17) 1 false v' (ls.map aJ++[.int .i64 z])->(∀q,q≠0+17->(Eff.app H1 (.pat rd pa)).get q=H1.get q)->(∀x∈pa,x.k=0+17)->Q v' (.pat rd pa))->XO pg 0 (.app 1 false 8) 17 H1 [v2,.sl false [.int .i64 z] true] Q t:=by intro z Q t q;exact eF (kb:=0) (s:=17) o2' (El.ints _) (xs:=[.int .i64 z]) (by intro y hy;simp at hy;subst hy;exact⟨rfl,rfl,rfl⟩) (by simp only[aI,List.length_singleton];simp only[big]at hlb;omega) (by decide) q
 have k1':=k1;simp only[aA.cells,Sl.av]at k1;cases e2:decide (0<=(d.length:Int)-1);simp only[e2,go_sem,seval];refine last _ ?_;intro v2' rd2 pa2 p2 hk2 _;generalize Eff.app H1 (.pat rd2 pa2)=H2 at p2 hk2 ⊢;simp only[hw,go_sem,seval];exact fin _ _ _ p2 hk2;obtain⟨j,hj⟩:=fM (aM e2);have hj0:(0<=(j:Int))=True:=eq_true (Int.natCast_nonneg j);have hj1:decide (0<=(j:Int))=true:=decide_eq_true (Int.natCast_nonneg j);simp only[hj]at hw ⊢;cases e3:decide ((j:Int)<(k.list.es.length:Int));simp only[e3,hj1,k1,aI,go_sem,seval];refine last _ ?_;intro v2' rd2 pa2 p2 hk2 _;generalize Eff.app H1 (.pat rd2 pa2)=H2 at p2 hk2 ⊢;simp only[hw,go_sem,seval];exact fin _ _ _ p2 hk2;have hjl:j<k.list.es.length:=Int.ofNat_lt.1 (aM e3);have l6:((j:Int)<(k.list.es.length:Int))=True:=eq_true (aM e3);have l7:((j:Int)<(cs.length:Int))=True:=eq_true (by rw[hcl];exact aM e3);obtain⟨q,hq⟩:∃q,k.list.es[j]?=some q:=⟨_,aX hjl⟩
 obtain⟨c,hcq⟩:∃c,cs[j]?=some c:=⟨_,aX (by rw[hcl];exact hjl)⟩
 cases e4:decide (0<=c);simp only[e3,e4,hj1,hj0,l6,l7,hcq,k1,aI,go_sem,seval];refine last _ ?_;intro v2' rd2 pa2 p2 hk2 _;generalize Eff.app H1 (.pat rd2 pa2)=H2 at p2 hk2 ⊢;simp only[hw,go_sem,seval];exact fin _ _ _ p2 hk2;simp only[e3,e4,hj1,hj0,l6,l7,hcq,hq,aH.avc,k1,aI,go_sem,seval];refine last _ ?_;intro v2' rd2 pa2 p2 hk2 _;generalize Eff.app H1 (.pat rd2 pa2)=H2 at p2 hk2 ⊢;simp only[hw,go_sem,seval];exact fin _ _ _ p2 hk2
end
end
section
section
variable{pg:Pg}
set_option maxRecDepth 100000 in
set_option maxHeartbeats 8000000 in
theorem c678(hf:pg.fs 678=some HA)(k:aA)(nl cl:Bool)(ds:List Val)(p:cB)(h17:bE pg 17 [k.av,.sl nl (ds.map Val.av) cl] (jQ k ds))(h10:bE pg 10 [k.av] (gD k))(h695:bE pg 695 [k.av] (zC k)) :
  bE pg 678 [k.av,p.av,.sl nl (ds.map Val.av) cl] (l3 k ds p):=by
 obtain⟨r9,a9,s9⟩:=h10;obtain⟨r17,a17,s17⟩:=h17;obtain⟨r6,a6,s6⟩:=h695;have tlP:=gI p.P;rw[aA.avc]at a17 a9 a6;rw[aA.avc,cB.avc];by_cases hx:dU k ds=0
 case neg=>
  have b0:decide (dU k ds=0)=false:=by simp[hx]
  have hfe:dZ k ds p=dU k ds:=by rw[dZ,if_neg hx]
  rw[jQ,if_neg hx]at s17;subst s17;refine bE.ofX hf ?_;unfold HA;refine Wk ?_;refine aB a17 ?_;simp only[b0,go_sem,seval];rw[l3,hfe,if_neg hx]
 have hfe:dZ k ds p=if fF k ds p then 0 else 21:=by rw[dZ,if_pos hx]
 have hbad:fF k ds p=false->l3 k ds p (.tup [.sl true [] true,.int .i64 21]):=λh=>by rw[l3,hfe,h];rfl
 rw[jQ,if_pos hx]at s17;obtain⟨n4,c4,rfl⟩:=s17;refine bE.ofX hf ?_;unfold HA;refine Wk ?_;refine aB a17 ?_;cases b1:decide ((p.P.length:Int)=(k.values.es.length:Int));simp only[b1,aI,go_sem,seval];exact hbad (by simp[fF,b1]);cases b2:decide ((p.C.length:Int)=(k.list.es.length:Int));simp only[b1,b2,aI,go_sem,seval];exact hbad (by simp[fF,b2]);cases b3:decide (p.pk<0)
 case true=>simp only[b1,b2,b3,aI,go_sem,seval];exact hbad (by simp[fF,b3])
 cases b4:decide (1000000<p.pk)
 case true=>simp only[b1,b2,b3,b4,aI,go_sem,seval];exact hbad (by simp[fF,b4])
 have hform:fF k ds p=xP (iI k ds) (aF k) p.pk 0 p.P:=by simp[fF,b1,b2,b3,b4]
 rw[hform]at hbad hfe;clear hform;have hc:=(fR hx).1;have ok:=dS hc;have hsz:=zD hx;have hPV:p.P.length=k.values.es.length:=by have:=aM b1;omega
 have hp0:0<=p.pk:=by have:=bH b3;omega
 have hp1:p.pk<=1000000:=by have:=bH b4;omega
 unfold gD at s9;rw[if_pos hc]at s9;obtain⟨n9,c9,rfl⟩:=s9;rw[zC,if_pos hc]at s6;obtain⟨n6,c6,vs,n7,c7,ls,hls,rfl⟩:=s6;have htr:=qU (oS hls);obtain⟨_,hsl,hzl⟩:=qG (ds:=ds) ok;have hfold:fV (fT ds) (aF k) k.values.es=iI k ds:=rfl;rw[hfold]at a17 hzl;have hPb:=p.bP;rw[hfold];simp only[b1,b2,b3,b4,aI,go_sem,seval];refine aB a9 (Wk ?_)
 refine aK p.P (λd r env hp=>env=oH (.pt 1 0 0) (.pt 5 0 0) (.sl n4 ((iI k ds).map aJ) c4) (.sl n9 ((aF k).map bQ) c9) (.int .i64 d.length)/\hp.get 1=some (0,.blk k.cells 6 true true false)/\hp.get 5=some (0,.blk p.cells 3 true true false) /\
  xP (iI k ds) (aF k) p.pk 0 p.P=xP (iI k ds) (aF k) p.pk d.length r) ?_ ?_ ?_
 exact⟨rfl,rfl,rfl,rfl⟩;rintro env hp ⟨rfl,g1,g5,hI⟩;have b5:xP (iI k ds) (aF k) p.pk 0 p.P=true:=by rw[hI];rfl
 simp only[cB.cells]at g5;simp only[aA.cells,Sl.av]at g1;rw[b5]at hfe;clear hI hbad b5;simp only[oG,oH,g1,g5,bA,aI,go_sem,seval];refine aB a6 ?_;simp only[htr,go_sem,seval];rw[l3,hfe];exact⟨n6,c6,vs,hls,rfl⟩;rintro d x r env hp hes ⟨rfl,g1,g5,hI⟩;obtain⟨hget,f1,f2,ew⟩:=cX hes hPb;have hlt:d.length<p.P.length:=(cD.1 hget).1;have l1:((d.length:Int)<((iI k ds).length:Int))=True:=eq_true (by omega);have l2:((d.length:Int)<((aF k).length:Int))=True:=eq_true (by omega);have hz':((iI k ds).map aJ)[d.length]?=some (aJ (jT (iI k ds) d.length)):=by rw[List.getElem?_map,jT,List.getD_eq_getElem?_getD,aX (by omega)];rfl
 have hs':=o7 (P:=aF k) (v:=d.length) (by omega);have hge:=LR k d.length;have hzd:=hsz d.length;have hl:(d++[x]).length=d.length+1:=by simp
 rw[xP]at hI;have g1':=g1;have g5':=g5;simp only[cB.cells]at g5;rw[hI]at hbad ⊢;clear hI hes;have hh:∀q,q≠17->∀e o,(hp.put 17 e o).get q=hp.get q:=λq hq e o=>by rw[aD,if_neg (Ne.symm hq)]
 cases e1:decide (x.2=jT (iI k ds) d.length);have hok:okP (iI k ds) (aF k) p.pk d.length x=false:=by simp only[okP,e1,Bool.false_and]
 simp only[oG,oH,f1,f2,hget,l1,l2,hz',hs',bQ,e1,g5,aI,go_sem,seval];exact⟨by kernel_rfl,hbad (by rw[hok,Bool.false_and])⟩;have x1:=aM e1;cases e2:decide ((plc (aF k) d.length).1 < -1)
 case true=>
  have n2:(plc (aF k) d.length).1 = -2:=by have:=aM e2;omega
  have e2':decide (-1<=(plc (aF k) d.length).1)=false:=by rw[n2];decide
  cases e3:decide (x.1 = -1)
  case false=>
   have hok:okP (iI k ds) (aF k) p.pk d.length x=false:=by simp only[okP,e1,if_pos n2,e3,Bool.and_false]
   simp only[oG,oH,f1,f2,hget,l1,l2,hz',hs',bQ,e1,e2,e2',e3,g5,aI,go_sem,seval];exact⟨by kernel_rfl,hbad (by rw[hok,Bool.false_and])⟩
  case true=>
   have hok:okP (iI k ds) (aF k) p.pk d.length x=true:=by simp only[okP,e1,if_pos n2,e3,Bool.and_self]
   simp only[oG,oH,f1,f2,hget,l1,l2,hz',hs',bQ,e1,e2,e2',e3,g5,aI,go_sem,seval];refine⟨by kernel_rfl,?_⟩;simp only[ew,go_sem,seval];exact⟨by kernel_rfl,g1',rfl,by rw[hok,hl];rfl⟩
 case false=>
  have n2:¬(plc (aF k) d.length).1 = -2:=by have:=bH e2;omega
  have e2':decide (-1<=(plc (aF k) d.length).1)=true:=by have:=bH e2;simp;omega
  cases e3:decide (x.1<0)
  case true=>
   have q3:decide (0<=x.1)=false:=by have:=aM e3;simp;omega
   have hok:okP (iI k ds) (aF k) p.pk d.length x=false:=by simp only[okP,e1,if_neg n2,q3,Bool.false_and,Bool.and_false]
   simp only[oG,oH,f1,f2,hget,l1,l2,hz',hs',bQ,e1,e2,e2',e3,g5,aI,go_sem,seval];exact⟨by kernel_rfl,hbad (by rw[hok,Bool.false_and])⟩
  have q3:decide (0<=x.1)=true:=by have:=bH e3;simp;omega
  cases e4:decide (p.pk<x.1)
  case true=>
   have q4:decide (x.1<=p.pk-x.2)=false:=by have:=aM e4;simp;omega
   have hok:okP (iI k ds) (aF k) p.pk d.length x=false:=by simp only[okP,e1,if_neg n2,q3,q4,Bool.and_false,Bool.true_and]
   simp only[oG,oH,f1,f2,hget,l1,l2,hz',hs',bQ,e1,e2,e2',e3,e4,g5,aI,go_sem,seval];exact⟨by kernel_rfl,hbad (by rw[hok,Bool.false_and])⟩
  have w1:wr .i64 (x.1+x.2)=x.1+x.2:=by have:=bH e4;have:=bH e3;exact aO (by omega) (by omega)
  cases e5:decide (p.pk<x.1+x.2)
  case true=>
   have q4:decide (x.1<=p.pk-x.2)=false:=by have:=aM e5;simp;omega
   have hok:okP (iI k ds) (aF k) p.pk d.length x=false:=by simp only[okP,e1,if_neg n2,q3,q4,Bool.and_false,Bool.true_and]
   simp only[oG,oH,f1,f2,hget,l1,l2,hz',hs',bQ,e1,e2,e2',e3,e4,e5,w1,g5,aI,go_sem,seval];exact⟨by kernel_rfl,hbad (by rw[hok,Bool.false_and])⟩
  case false=>
   have q4:decide (x.1<=p.pk-x.2)=true:=by have:=bH e5;simp;omega
   have hok:okP (iI k ds) (aF k) p.pk d.length x=true:=by simp only[okP,e1,if_neg n2,q3,q4,Bool.and_self]
   simp only[oG,oH,f1,f2,hget,l1,l2,hz',hs',bQ,e1,e2,e2',e3,e4,e5,w1,g5,aI,go_sem,seval];refine⟨by kernel_rfl,?_⟩;simp only[ew,go_sem,seval];exact⟨by kernel_rfl,g1',rfl,by rw[hok,hl];rfl⟩
end
end
section
section
variable{pg:Pg}
set_option maxRecDepth 100000 in
set_option maxHeartbeats 8000000 in
theorem c667(hf:pg.fs 667=some HD)(k:aA)(nl cl:Bool)(ds:List Val)(p:cB)(h678:bE pg 678 [k.av,p.av,.sl nl (ds.map Val.av) cl] (l3 k ds p)) :
  bE pg 667 [k.av,p.av,.sl nl (ds.map Val.av) cl] (lK k ds p zB):=by
 obtain⟨r8,a8,s8⟩:=h678;have tlP:=gI p.P;rw[aA.avc,cB.avc]at a8;rw[aA.avc,cB.avc];unfold lK;unfold l3 at s8;by_cases hx:dZ k ds p=0
 case neg=>
  have b0:decide (dZ k ds p=0)=false:=by simp[hx]
  rw[if_neg hx]at s8;subst s8;simp only[if_neg hx];refine bE.ofX hf ?_;unfold HD;refine Wk ?_;refine bT a8 (by simp only[tlP,go_sem,seval]) rfl ?_;simp only[b0,go_sem,seval]
 simp only[if_pos hx];rw[if_pos hx]at s8;obtain⟨n6,c6,vs,hls,rfl⟩:=s8;have htr:=qU (oS hls);have hcx:dU k ds=0:=by by_cases h:dU k ds=0;exact h;rw[dZ,if_neg h]at hx;exact absurd hx h
 have hfb:fF k ds p=true:=by rw[dZ,if_pos hcx]at hx;cases hb:fF k ds p;rw[hb]at hx;simp at hx;rfl
 have hgood:=oD hcx hfb;have ok:=dS (fR hcx).1;obtain⟨_,hsl,hzl⟩:=qG (ds:=ds) ok;simp only[fF,aG,aY,fB,fL]at hfb;obtain⟨⟨⟨⟨b1,b2⟩,b3⟩,b4⟩,b5⟩:=hfb;have hPV:p.P.length=k.values.es.length:=by omega
 have hPb:=p.bP;have hLb:=k.list.ok;have hll:∀at_,(cY at_ (aF k)).length<=big:=λat_=>by have:=(iV at_ _ (aF k) rfl).2;omega
 obtain⟨R,hR⟩:∃R,R=List.range (k.list.es.length+2):=⟨_,rfl⟩
 have hRl:R.length=k.list.es.length+2:=by rw[hR,List.length_range]
 have hvl:vs.length=R.length:=by rw[hRl];exact hls.1
 have hab0:∀j:Nat,j<k.list.es.length+2->j+1<=1073741824:=λj hj=>by simp only[big]at hLb;omega
 have hwr0:∀j:Nat,j<k.list.es.length+2->wr .i64 ((j:Int)+1)=((j+1:Nat):Int):=λj hj=>by rw[aO (by omega) (by simp only[big]at hLb;omega)];omega
 refine bE.ofX hf ?_;unfold HD;refine Wk ?_;refine bT a8 (by simp only[tlP,go_sem,seval]) rfl (Wk ?_)
 refine aK R (λd r env hp=>∃v,env=JQ (.pt 5 0 0) (.sl n6 vs c6) v (.int .i64 d.length)/\hp.get 5=some (0,.blk p.cells 3 true true false) /\
  Own hp 17 1 false v (((List.range d.length).map fun(i:Nat)=>zB (gV k p.P ((i:Int)-1))).map aJ)) ?_ ?_ ?_
 exact⟨_,rfl,rfl,Own.nil _ _ _ _ _ _ rfl⟩;rintro env hp ⟨v,rfl,g5,ho⟩;rw[hRl]at ho;obtain⟨nl',cl',hcv⟩:=vK ho (El.ints _) 0;simp only[JO,JQ,hvl,bA,go_sem,seval];exact⟨_,hcv,nl',cl',rfl⟩;rintro d x r env hp hes ⟨v,rfl,g5,ho⟩;rw[hR]at hes;obtain⟨rfl,hlt⟩:=gT hes;have hl:(d++[d.length]).length=d.length+1:=by simp
 obtain⟨n3,c3,hv⟩:=hls.2 d.length hlt;have hgd:=hgood ((d.length:Int)-1);have hlb:=hll ((d.length:Int)-1);have hsucc:=wO (fun(i:Nat)=>zB (gV k p.P ((i:Int)-1))) d.length
 have hlv:∀w∈cY ((d.length:Int)-1) (aF k),0<=w/\w.toNat<p.P.length:=λw hw=>by obtain⟨u,u1,u2,u3⟩:=lO.1 hw;have:=(cD.1 u2).1;exact⟨u1,by omega⟩
 rw[hl,hsucc];have hacc:((List.range d.length).map fun(i:Nat)=>zB (gV k p.P ((i:Int)-1))).length=d.length:=by simp
 generalize ((List.range d.length).map fun(i:Nat)=>zB (gV k p.P ((i:Int)-1)))=acc at ho hacc ⊢;simp only[gV]at hgd ⊢;generalize cY ((d.length:Int)-1) (aF k)=lv at *;have e1:decide ((d.length:Int)<(vs.length:Int))=true:=by rw[hvl];simp;omega
 have e1':((d.length:Int)<(vs.length:Int))=True:=eq_true (aM e1);have hj0:(0<=(d.length:Int))=True:=eq_true (Int.natCast_nonneg _);have hw:=hwr0 d.length hlt;have hab:acc.length+1<=1073741824:=by rw[hacc];exact hab0 d.length hlt
 clear hes hsucc;simp only[JO,JQ,e1,go_sem,seval]
 refine aK lv (λd2 r2 env hp2=>∃n:Int,env=JR (.pt 5 0 0) (.sl n6 vs c6) v (.int .i64 d.length) (.int .i64 n) (.int .i64 d2.length)/\hp2.get 5=some (0,.blk p.cells 3 true true false)/\Own hp2 17 1 false v (acc.map aJ) /\
  zB (lv.map λw=>plc p.P w.toNat)=(r2.map λw=>plc p.P w.toNat).foldl (λn q=>mxI n (q.1+q.2)) n) ?_ ?_ ?_
 exact⟨0,rfl,g5,ho,rfl⟩;rintro env hp2 ⟨n,rfl,g5,ho,hI⟩;simp only[JP,JR,e1',hj0,hv,bA,aI,go_sem,seval];refine eF (kb:=0) (s:=17) ho (El.ints _) (xs:=[.int .i64 n]) (by intro z hz;simp at hz;subst hz;exact⟨rfl,rfl,rfl⟩) (by simp only[aI,List.length_singleton];exact hab) (by decide) ?_;intro v' rd pa p2 hk2 _;have k5:=(hk2 5 (by decide)).trans g5;generalize Eff.app hp2 (.pat rd pa)=H2 at p2 k5 ⊢;simp only[hw,go_sem,seval];exact⟨v',rfl,k5,by rw[List.map_append,List.map_singleton,hI];exact p2⟩;rintro d2 x r2 env hp2 hes ⟨n,rfl,g5,ho,hI⟩;obtain⟨hget',f1,f2,ew⟩:=cX hes hlb;obtain⟨hx0,hxP⟩:=hlv x (by rw[hes];simp);obtain⟨u,rfl⟩:=fM hx0;rw[Int.toNat_natCast]at hxP;have lu:((u:Int)<(p.P.length:Int))=True:=eq_true (by omega);have hu0:(0<=(u:Int))=True:=eq_true (by omega);have hu':=o7 hxP;obtain⟨x1,x2,x3⟩:=hgd (plc p.P u) (by rw[hes];simp);have w1:wr .i64 ((plc p.P u).1+(plc p.P u).2)=(plc p.P u).1+(plc p.P u).2:=aO (by omega) (by omega);have g5':=g5;simp only[cB.cells]at g5;simp only[JP,JR,e1',hj0,hv,f1,f2,hget',g5,lu,hu0,hu',bQ,aI,go_sem,seval];refine⟨by kernel_rfl,?_⟩;simp only[w1,mx2,ew,bQ,go_sem,seval];rw[List.map_cons,List.foldl_cons,Int.toNat_natCast]at hI;exact⟨mxI n ((plc p.P u).1+(plc p.P u).2),rfl,g5',ho.mono (by rw[aD,if_neg (by decide),aD,if_neg (by decide)]),hI⟩
end
end
section
theorem X1(l:List Sp):∀n:Nat,0<=jD l n/\jD l n<=n
 |0=>⟨Int.le_refl _,Int.le_refl _⟩
 |n+1=>by have:=X1 l n;rw[jD];split<;>omega
theorem aCO{L:List Sp}{pk a n e:Int}(hL:∀p∈L,0<=p.1/\0<=p.2/\p.1+p.2<=pk)(hp:0<=pk)(h:lN a pk (-1) L=(n,e)):0<=n/\n<=pk:=by
 have h1:=(xR (at_:=a) L pk (-1)).1;rcases vB (at_:=a) L pk (-1) with h2|⟨p,hp2,_,_,h2⟩
 rw[h]at h1 h2;cases h2;exact⟨hp,h1⟩;rw[h]at h1 h2;cases h2;have:=hL p hp2;exact⟨this.1,h1⟩
section
variable{pg:Pg}
set_option maxRecDepth 100000 in
set_option maxHeartbeats 8000000 in
theorem c669(hf:pg.fs 669=some HC)(k:aA)(nl cl:Bool)(ds:List Val)(p:cB)(h678:bE pg 678 [k.av,p.av,.sl nl (ds.map Val.av) cl] (l3 k ds p)) :
  bE pg 669 [k.av,p.av,.sl nl (ds.map Val.av) cl] (lK k ds p (λes=>jD es p.pk.toNat)):=by
 obtain⟨r8,a8,s8⟩:=h678;have tlP:=gI p.P;rw[aA.avc,cB.avc]at a8;rw[aA.avc,cB.avc];unfold lK;unfold l3 at s8;by_cases hx:dZ k ds p=0
 case neg=>
  have b0:decide (dZ k ds p=0)=false:=by simp[hx]
  rw[if_neg hx]at s8;subst s8;simp only[if_neg hx];refine bE.ofX hf ?_;unfold HC;refine Wk ?_;refine bT a8 (by simp only[tlP,go_sem,seval]) rfl ?_;simp only[b0,go_sem,seval]
 simp only[if_pos hx];rw[if_pos hx]at s8;obtain⟨n6,c6,vs,hls,rfl⟩:=s8;have htr:=qU (oS hls);have hcx:dU k ds=0:=by by_cases h:dU k ds=0;exact h;rw[dZ,if_neg h]at hx;exact absurd hx h
 have hfb:fF k ds p=true:=by rw[dZ,if_pos hcx]at hx;cases hb:fF k ds p;rw[hb]at hx;simp at hx;rfl
 have hgood:=oD hcx hfb;have ok:=dS (fR hcx).1;obtain⟨_,hsl,hzl⟩:=qG (ds:=ds) ok;simp only[fF,aG,aY,fB,fL]at hfb;obtain⟨⟨⟨⟨b1,b2⟩,b3⟩,b4⟩,b5⟩:=hfb;have hPV:p.P.length=k.values.es.length:=by omega
 have hPb:=p.bP;have pk0:0<=p.pk:=by omega
 have pk1:p.pk<=1000000:=by omega
 have hLb:=k.list.ok;have hll:∀at_,(cY at_ (aF k)).length<=big:=λat_=>by have:=(iV at_ _ (aF k) rfl).2;omega
 obtain⟨R,hR⟩:∃R,R=List.range (k.list.es.length+2):=⟨_,rfl⟩
 have hRl:R.length=k.list.es.length+2:=by rw[hR,List.length_range]
 have hvl:vs.length=R.length:=by rw[hRl];exact hls.1
 have hab0:∀j:Nat,j<k.list.es.length+2->j+1<=1073741824:=λj hj=>by simp only[big]at hLb;omega
 have hwr0:∀j:Nat,j<k.list.es.length+2->wr .i64 ((j:Int)+1)=((j+1:Nat):Int):=λj hj=>by rw[aO (by omega) (by simp only[big]at hLb;omega)];omega
 refine bE.ofX hf ?_;unfold HC;refine Wk ?_;refine bT a8 (by simp only[tlP,go_sem,seval]) rfl (Wk ?_)
 refine aK R (λd r env hp=>∃v,env=JN (.pt 5 0 0) (.sl n6 vs c6) v (.int .i64 d.length)/\hp.get 5=some (0,.blk p.cells 3 true true false) /\
  Own hp 17 1 false v (((List.range d.length).map fun(i:Nat)=>jD (gV k p.P ((i:Int)-1)) p.pk.toNat).map aJ)) ?_ ?_ ?_
 exact⟨_,rfl,rfl,Own.nil _ _ _ _ _ _ rfl⟩;rintro env hp ⟨v,rfl,g5,ho⟩;rw[hRl]at ho;obtain⟨nl',cl',hcv⟩:=vK ho (El.ints _) 0;simp only[JM,JN,hvl,bA,go_sem,seval];exact⟨_,hcv,nl',cl',rfl⟩;rintro d x r env hp hes ⟨v,rfl,g5,ho⟩;rw[hR]at hes;obtain⟨rfl,hlt⟩:=gT hes;have hl:(d++[d.length]).length=d.length+1:=by simp
 obtain⟨n3,c3,hv⟩:=hls.2 d.length hlt;have hgd:=hgood ((d.length:Int)-1);have hlb:=hll ((d.length:Int)-1);have hsucc:=wO (fun(i:Nat)=>jD (gV k p.P ((i:Int)-1)) p.pk.toNat) d.length
 have hlv:∀w∈cY ((d.length:Int)-1) (aF k),0<=w/\w.toNat<p.P.length:=λw hw=>by obtain⟨u,u1,u2,u3⟩:=lO.1 hw;have:=(cD.1 u2).1;exact⟨u1,by omega⟩
 rw[hl,hsucc];have hacc:((List.range d.length).map fun(i:Nat)=>jD (gV k p.P ((i:Int)-1)) p.pk.toNat).length=d.length:=by simp
 generalize ((List.range d.length).map fun(i:Nat)=>jD (gV k p.P ((i:Int)-1)) p.pk.toNat)=acc at ho hacc ⊢;simp only[gV]at hgd ⊢;generalize cY ((d.length:Int)-1) (aF k)=lv at *;have e1:decide ((d.length:Int)<(vs.length:Int))=true:=by rw[hvl];simp;omega
 have e1':((d.length:Int)<(vs.length:Int))=True:=eq_true (aM e1);have hj0:(0<=(d.length:Int))=True:=eq_true (Int.natCast_nonneg _);have hw:=hwr0 d.length hlt;have hab:acc.length+1<=1073741824:=by rw[hacc];exact hab0 d.length hlt
 clear hes hsucc;have hgd':∀q∈lv.map (λw=>plc p.P w.toNat),0<=q.1/\0<=q.2/\q.1+q.2<=p.pk:=hgd;obtain⟨L,hL⟩:∃L,L=lv.map (λw=>plc p.P w.toNat):=⟨_,rfl⟩
 rw[<-hL]at hgd' ⊢;simp only[JM,JN,e1,go_sem,seval];refine rM (α:=Int×Int) (λa=>(p.pk-a.2).toNat) (λa env hp2=>env=U2 (.pt 5 0 0) (.sl n6 vs c6) v (.int .i64 d.length) (.int .i64 a.1) (.int .i64 a.2)/\0<=a.2/\a.2<=p.pk/\a.1=jD L a.2.toNat/\hp2.get 5=some (0,.blk p.cells 3 true true false)/\Own hp2 17 1 false v (acc.map aJ)) (0,0) ⟨rfl,Int.le_refl _,pk0,rfl,g5,ho⟩ ?_;rintro⟨f,a⟩ env hp2 ⟨rfl,ha0,ha1,hf,g5,ho⟩;have g5':=g5;simp only[cB.cells]at g5;have hnu:=Y5 hgd' ha0 ha1 hf;dsimp only at ha0 ha1 hf hnu ⊢;simp only[U1,U2,g5,go_sem,seval]
 refine aK lv (λd2 r2 env hp3=>∃n e:Int,env=sL (.pt 5 0 0) (.sl n6 vs c6) v (.int .i64 d.length) (.int .i64 f) (.int .i64 a) (.int .i64 n) (.int .i64 e) (.int .i64 d2.length)/\hp3.get 5=some (0,.blk p.cells 3 true true false)/\Own hp3 17 1 false v (acc.map aJ) /\
  lN a p.pk (-1) L=lN a n e (r2.map λw=>plc p.P w.toNat)) ?_ ?_ ?_
 exact⟨p.pk,-1,rfl,g5',ho,by rw[hL]⟩;rintro env hp3 ⟨n,e,rfl,g5,ho,hI⟩;rw[List.map_nil,lN]at hI;rw[hI]at hnu;obtain⟨hn0,hn1⟩:=aCO hgd' pk0 hI;have hfb:=X1 L a.toNat;have w1:wr .i64 (n-a)=n-a:=aO (by omega) (by omega);have w2:wr .i64 (f+if 0<n-a then n-a else 0)=f+mxI 0 (n-a):=by
  have:wr .i64 (f+if 0<n-a then n-a else 0)=f+if 0<n-a then n-a else 0:=by split<;>exact aO (by omega) (by omega)
  exact this
 dsimp only at hnu;rcases hnu with ⟨he,hfv⟩|⟨he0,he1,he2,hfv⟩
 have b1:decide (e<0)=true:=decide_eq_true he;simp only[sK,sL,e1',hj0,hv,bA,w1,mx2,w2,b1,aI,go_sem,seval];rw[hfv];refine eF (kb:=0) (s:=17) ho (El.ints _) (xs:=[.int .i64 (jD L p.pk.toNat)]) (by intro z hz;simp at hz;subst hz;exact⟨rfl,rfl,rfl⟩) (by simp only[aI,List.length_singleton];exact hab) (by decide) ?_;intro v' rd pa p2 hk2 _;have k5:=(hk2 5 (by decide)).trans g5;generalize Eff.app hp3 (.pat rd pa)=H2 at p2 k5 ⊢;simp only[hw,go_sem,seval];exact⟨v',rfl,k5,by rw[List.map_append,List.map_singleton];exact p2⟩;have b1:decide (e<0)=false:=decide_eq_false (by omega);have hae:(if a<e then e else a)=e:=if_pos he1;simp only[sK,sL,e1',hj0,hv,bA,w1,mx2,w2,b1,hae,aI,go_sem,seval];exact⟨(f+mxI 0 (n-a),e),by dsimp only;omega,rfl,he0,he2,hfv,g5,ho⟩;rintro d2 x r2 env hp3 hes ⟨n,e,rfl,g5,ho,hI⟩;obtain⟨hget',f1,f2,ew⟩:=cX hes hlb;obtain⟨hx0,hxP⟩:=hlv x (by rw[hes];simp);obtain⟨u,rfl⟩:=fM hx0;rw[Int.toNat_natCast]at hxP;have lu:((u:Int)<(p.P.length:Int))=True:=eq_true (by omega);have hu0:(0<=(u:Int))=True:=eq_true (Int.natCast_nonneg _);have hu':=o7 hxP;obtain⟨x1,x2,x3⟩:=hgd' (plc p.P u) (by rw[hL,hes];simp);have w1:wr .i64 ((plc p.P u).1+(plc p.P u).2)=(plc p.P u).1+(plc p.P u).2:=aO (by omega) (by omega);have g5':=g5;simp only[cB.cells]at g5;rw[List.map_cons,lN,Int.toNat_natCast]at hI;have fin:∀H:Hp,H.get 5=hp3.get 5->H.get 17=hp3.get 17->H.get 5=some (0,.blk p.cells 3 true true false)/\Own H 17 1 false v (acc.map aJ):=λH h1 h2=>⟨h1.trans g5',ho.mono h2⟩
 cases e2:decide (0<(plc p.P u).2)
 case false=>simp only[sK,sL,e1',hj0,hv,f1,f2,hget',g5,lu,hu0,hu',bQ,aI,go_sem,seval];refine⟨by kernel_rfl,?_⟩;simp only[w1,e2,ew,bQ,go_sem,seval];rw[if_neg (λh=>by have:=bH e2;exact this h.1)]at hI;exact⟨n,e,rfl,g5',ho.mono (by rw[aD,if_neg (by decide),aD,if_neg (by decide)]),hI⟩
 cases e3:decide (a<(plc p.P u).1+(plc p.P u).2)
 case false=>simp only[sK,sL,e1',hj0,hv,f1,f2,hget',g5,lu,hu0,hu',bQ,aI,go_sem,seval];refine⟨by kernel_rfl,?_⟩;simp only[w1,e2,e3,ew,bQ,go_sem,seval];rw[if_neg (λh=>by have:=bH e3;exact this h.2.1)]at hI;exact⟨n,e,rfl,g5',ho.mono (by rw[aD,if_neg (by decide),aD,if_neg (by decide)]),hI⟩
 cases e4:decide ((plc p.P u).1<n)
 case false=>simp only[sK,sL,e1',hj0,hv,f1,f2,hget',g5,lu,hu0,hu',bQ,aI,go_sem,seval];refine⟨by kernel_rfl,?_⟩;simp only[w1,e2,e3,e4,ew,bQ,go_sem,seval];rw[if_neg (λh=>by have:=bH e4;exact this h.2.2)]at hI;exact⟨n,e,rfl,g5',ho.mono (by rw[aD,if_neg (by decide),aD,if_neg (by decide)]),hI⟩
 case true=>rw[if_pos ⟨aM e2,aM e3,aM e4⟩]at hI;simp only[sK,sL,e1',hj0,hv,f1,f2,hget',g5,lu,hu0,hu',bQ,aI,go_sem,seval];refine⟨by kernel_rfl,?_⟩;simp only[w1,e2,e3,e4,ew,bQ,go_sem,seval];refine⟨by kernel_rfl,?_⟩;exact⟨(plc p.P u).1,(plc p.P u).1+(plc p.P u).2,rfl,g5',ho.mono (by rw[aD,if_neg (by decide),aD,if_neg (by decide)]),hI⟩
end
end
end Go.Tev
