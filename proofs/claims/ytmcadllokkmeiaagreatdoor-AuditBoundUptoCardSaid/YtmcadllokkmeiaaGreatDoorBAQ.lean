import Derived.Test.YtmcadllokkmeiaaGreatDoorBAP
import Derived.Test.YtmcadllokkmeiaaGreatDoorBAH
import Derived.Test.YtmcadllokkmeiaaGreatDoorBAM
set_option linter.all false
namespace Go.Tev
section
structure El(esz:Nat)(ag:Bool)(v:AV):Prop where
 fits:v.fits esz ag=true
 one:cX v.cells=true
 tree:v.tree=true
theorem El.len{esz:Nat}{ag:Bool}{v:AV}(h:El esz ag v):v.cells.length=esz:=by have:=h.fits;cases v<;>simp[AV.fits,AV.cells]at this ⊢ <;> first|exact this.2|exact this.2.symm|omega
theorem El.isAgg{esz:Nat}{ag:Bool}{v:AV}(h:El esz ag v):v.isAgg=ag:=by have:=h.fits;cases v<;>cases ag<;>simp[AV.fits,AV.isAgg]at this ⊢
theorem eD{esz:Nat}{ag:Bool}:∀{es:List AV},(∀x∈es,El esz ag x)->∃cs,cK esz ag es=some cs/\cs.length=es.length*esz/\cX cs=true/\∀tl,pK esz ag es.length (cs++tl)=some es
 |[],_=>⟨[],rfl,by simp,rfl,λ_=>rfl⟩
 |x::r,h=>by
  obtain⟨cs,h1,h2,h3,h4⟩:=eD (λy hy=>h y (dY _ hy));have hx:=h x (by simp);have hl:=hx.len;refine⟨x.cells++cs,?_,?_,?_,?_⟩;simp[cK,hx.fits,hx.one,h1];simp[h2,hl,Nat.add_mul];omega;have happ:∀(p q:List AV),cX p=true->cX q=true->cX (p++q)=true:=by
   intro p q hp hq
   induction p with
   |nil=>exact hq
   |cons y s ih=>simp only[cX,aF,List.cons_append]at hp ⊢;exact⟨hp.1,ih hp.2⟩
  exact happ _ _ hx.one h3;intro tl;have hag:=hx.isAgg;cases ag with
  |true=>
   obtain⟨c,rfl⟩:∃c,x = .agg c:=by cases x<;>simp[AV.isAgg]at hag;exact⟨_,rfl⟩
   simp only[AV.cells]at hl;simp only[List.length_cons,pK,AV.cells,aN,lH];rw[if_neg (by simp[hl])];rw[<-hl];simp only[List.drop_left,List.take_left];rw[hl,h4 tl];rfl
  |false=>
   have hc:x.cells=[x]:=by cases x<;>simp[AV.isAgg]at hag<;>rfl
   have he:esz=1:=by rw[hc]at hl;simpa using hl.symm
   subst he;simp only[List.length_cons,pK,hc,bR,aL,List.cons_append,fW,hag,h4 tl];rfl
theorem O6{h:Hp}{esz:Nat}{ag:Bool}{es:List AV}(he:∀x∈es,El esz ag x):eN (snap depth h) es=some (es,[]):=by
 refine fI 63 h ?_
 induction es with
 |nil=>rfl
 |cons x r ih=>simp only[treeL,aF];exact⟨(he x (by simp)).tree,ih (λy hy=>he y (dY _ hy))⟩
def Own(h:Hp)(k0 esz:Nat)(ag:Bool)(v:AV)(es:List AV):Prop:=
 (es=[]/\∃nl cl,v = .sl nl [] cl/\(nl||cl)=true) \/
 (∃e cs,v = .rf k0 e 0 es.length es.length/\h.get k0=some (e,.blk cs esz ag false false)/\cK esz ag es=some cs)
theorem Own.mono{h h':Hp}{k0 esz:Nat}{ag:Bool}{v:AV}{es:List AV}(o:Own h k0 esz ag v es)(hh:h'.get k0=h.get k0):Own h' k0 esz ag v es:=by
 rcases o with o|⟨e,cs,h2,h3,h4⟩
 exact .inl o;exact .inr ⟨e,cs,h2,by rw[hh];exact h3,h4⟩
theorem Own.nil(h:Hp)(k0 esz:Nat)(ag:Bool)(nl cl:Bool)(hc:(nl||cl)=true):Own h k0 esz ag (.sl nl [] cl) []:=.inl ⟨rfl,nl,cl,rfl,hc⟩
def pA(esz:Nat)(ag:Bool)(es:List AV)(r:AV):Prop:=
 (es=[]/\∃nl cl,r = .sl nl [] cl/\(nl||cl)=true)\/r = .os es esz ag
theorem Own.conv{h:Hp}{k0 esz:Nat}{ag:Bool}{v:AV}{es:List AV}(o:Own h k0 esz ag v es)(he:∀x∈es,El esz ag x):∃r,Tev.conv h v=some r/\pA esz ag es r:=by
 rcases o with ⟨rfl,nl,cl,rfl,hc⟩|⟨e,cs,rfl,hg,hu⟩
 exact⟨.sl nl [] cl,B8 rfl,.inl ⟨rfl,nl,cl,rfl,hc⟩⟩;obtain⟨cs',h1,h2,h3,h4⟩:=eD he;rw[hu]at h1;cases h1;have h5:=h4 [];rw[List.append_nil]at h5;refine⟨.os es esz ag,?_,.inr rfl⟩;simp[Tev.conv,hg,h5,O6 he]
theorem kN{esz:Nat}{ag:Bool}:∀{a b:List AV}{c d:List AV},cK esz ag a=some c->cK esz ag b=some d->cK esz ag (a++b)=some (c++d)
 |[],b,c,d,h1,h2=>by cases h1;exact h2
 |x::r,b,c,d,h1,h2=>by simp only[cK]at h1;split at h1;rename_i hc;simp only[tJ]at h1;obtain⟨c',h3,rfl⟩:=h1;simp[cK,hc,kN h3 h2];cases h1
section
variable{pg:Pg}{kb:Nat}
theorem gR{esz bytes s:Nat}{ag:Bool}{h:Hp}{v:AV}{es xs:List AV}{nl cl:Bool}{Q:AV->Eff->Prop}{t:Tok Q}(o:Own h (kb+s) esz ag v es)(he:∀x∈es,El esz ag x)(hx:∀x∈xs,El esz ag x)
  (hl:es.length+xs.length<=1073741824) (hb:bytes<=65536)
  (q:∀v' rd pa,Own (Eff.app h (.pat rd pa)) (kb+s) esz ag v' (es++xs)->(∀k,k≠kb+s->(Eff.app h (.pat rd pa)).get k=h.get k)->(∀x∈pa,x.k=kb+s)->Q v' (.pat rd pa)) :
  XO pg kb (.app esz ag bytes) s h [v,.sl nl xs cl] Q t:=by
 rw[jW];obtain⟨ds,d1,d2,d3,_⟩:=eD hx;simp only[pJ,bH,d1,Option.map_some];by_cases hxs:xs=[]
 subst hxs;cases d1;rcases o with ⟨rfl,nl',cl',rfl,hc⟩|⟨e,cs,rfl,hg,hu⟩
 simp only[nJ,List.length_nil,aN];exact q _ _ _ (.inl ⟨rfl,nl',cl',rfl,hc⟩) (λ_ _=>rfl) (by simp);obtain⟨cs',c1,c2,_,_⟩:=eD he;rw[hu]at c1;cases c1;simp only[nJ,hg,List.length_nil,aN,true_and,bF];rw[if_pos (by omega)];exact q _ _ _ (.inr ⟨e,cs,by simp,by simpa[Eff.app,dZ] using hg,by simpa using hu⟩) (λ_ _=>rfl) (by simp);have hn:xs.length≠0:=by simpa using hxs
 rcases o with ⟨rfl,nl',cl',rfl,hc⟩|⟨e,cs,rfl,hg,hu⟩
 simp only[nJ,hn,aL,hc,List.length_nil,bF,cE];have hlx:xs.length<=1073741824:=by simpa using hl
 simp only[hlx,hb,decide_true,Bool.and_self,aN,cK,fW];refine q _ _ _ (.inr ⟨_,ds,rfl,?_,by simpa using d1⟩) ?_ (by simp);rw[nI,aI,if_pos rfl];intro k hk;rw[nI,aI,if_neg (Ne.symm hk)];obtain⟨cs',c1,c2,_,_⟩:=eD he;rw[hu]at c1;cases c1;have h1:¬(es.length+xs.length<=es.length):=by omega
 simp only[nJ,hg,hn,aL,true_and,bF];rw[if_pos (by omega)];simp only[h1,aL,hl,hb,decide_true,cE,beq_self_eq_true,Bool.not_true,gD,bR,Bool.not_false,aN];refine q _ _ _ (.inr ⟨e+1,cs++ds,by simp,?_,kN hu d1⟩) ?_ (by simp);rw[nI,aI,if_pos rfl];simp[<-c2];intro k hk;rw[nI,aI,if_neg (Ne.symm hk)]
theorem OE{esz bytes s k1:Nat}{ag:Bool}{h:Hp}{v:AV}{es xs:List AV}{nl cl:Bool}{Q:AV->Eff->Prop}{t:Tok Q}(o:Own h k1 esz ag v es)(hk1:k1≠kb+s)(he:∀x∈es,El esz ag x)(hx:∀x∈xs,El esz ag x)
  (hl:es.length+xs.length<=1073741824) (hb:bytes<=65536)
  (q1:xs=[]->∀rd,Q v (.pat rd []))
  (q2:xs≠[]->∀v' rd pa,Own (Eff.app h (.pat rd pa)) (kb+s) esz ag v' (es++xs)->(∀k,k≠kb+s->k≠k1->(Eff.app h (.pat rd pa)).get k=h.get k)->Q v' (.pat rd pa)) :
  XO pg kb (.app esz ag bytes) s h [v,.sl nl xs cl] Q t:=by
 rw[jW];obtain⟨ds,d1,d2,d3,_⟩:=eD hx;simp only[pJ,bH,d1,Option.map_some];by_cases hxs:xs=[]
 subst hxs;cases d1;rcases o with ⟨rfl,nl',cl',rfl,hc⟩|⟨e,cs,rfl,hg,hu⟩
 simp only[nJ,List.length_nil,aN];exact q1 rfl _;obtain⟨cs',c1,c2,_,_⟩:=eD he;rw[hu]at c1;cases c1;simp only[nJ,hg,List.length_nil,aN,true_and,bF];rw[if_pos (by omega)];exact q1 rfl _;have hn:xs.length≠0:=by simpa using hxs
 rcases o with ⟨rfl,nl',cl',rfl,hc⟩|⟨e,cs,rfl,hg,hu⟩
 simp only[nJ,hn,aL,hc,List.length_nil,bF,cE];have hlx:xs.length<=1073741824:=by simpa using hl
 simp only[hlx,hb,decide_true,Bool.and_self,aN,cK,fW];refine q2 hxs _ _ _ (.inr ⟨_,ds,rfl,?_,by simpa using d1⟩) ?_;rw[nI,aI,if_pos rfl];intro k hk _;rw[nI,aI,if_neg (Ne.symm hk)];obtain⟨cs',c1,c2,_,_⟩:=eD he;rw[hu]at c1;cases c1;have h1:¬(es.length+xs.length<=es.length):=by omega
 have h2:(k1==kb+s)=false:=by simpa using hk1
 simp only[nJ,hg,hn,aL,true_and,bF];rw[if_pos (by omega)];simp only[h1,aL,hl,hb,decide_true,cE,h2,Bool.not_false,aN,bR];refine q2 hxs _ _ _ (.inr ⟨h.next (kb+s),cs++ds,by simp,?_,kN hu d1⟩) ?_;rw[A7,aI,if_pos rfl];simp[<-c2];intro k hk hk2;rw[A7,aI,if_neg (Ne.symm hk),aI,if_neg (Ne.symm hk2)]
theorem mN{f s esz:Nat}{ag:Bool}{h:Hp}{vs es:List AV}{Q:AV->Eff->Prop}{t:Tok Q}(hr:bQ pg f vs (pA esz ag es))(hm:treeL vs=true)
  (q:∀nl cl,(nl=true->es=[])->Q (.sl nl es cl) (.pat [kb+s] [])):XO pg kb (.call f false false) s h vs Q t:=by
 obtain⟨r,hr,⟨rfl,nl,cl,rfl,hc⟩|rfl⟩:=hr;exact bZ hr hm rfl (q nl cl (λ_=>rfl));refine cR hr (fI 63 h hm) (v:=.sl false es false) (pa:=[]) rfl ?_;have:(if (AV.os es esz ag).flat then ([]:List Ent) else gJ h [])++[]=[]:=by split<;>rfl
 rw[this];exact q false false (λh=>by cases h)
theorem CL{f s esz:Nat}{ag:Bool}{h:Hp}{vs es:List AV}{Q:AV->Eff->Prop}{t:Tok Q}(hr:bQ pg f vs (pA esz ag es))(hm:treeL vs=true)(he:∀x∈es,El esz ag x)
  (q:∀v rd pa,Own (Eff.app h (.pat rd pa)) (kb+s) esz ag v es->(∀k,k≠kb+s->(Eff.app h (.pat rd pa)).get k=h.get k)->(∀x∈pa,x.k=kb+s)->Q v (.pat rd pa)):XO pg kb (.call f true false) s h vs Q t:=by
 obtain⟨r,hr,⟨rfl,nl,cl,rfl,hc⟩|rfl⟩:=hr;exact bZ hr hm rfl (q _ _ _ (Own.nil _ _ _ _ _ _ hc) (λ_ _=>rfl) (by simp));obtain⟨cs,c1,c2,_,_⟩:=eD he;refine cR hr (fI 63 h hm) (v:=.rf (kb+s) (h.next (kb+s)) 0 es.length es.length) (pa:=[⟨kb+s,h.next (kb+s),.blk cs esz ag false false⟩]) (by simp[iO,c1]) ?_;have:(if (AV.os es esz ag).flat then ([]:List Ent) else gJ h [])=[]:=by split<;>rfl
 rw[this,fW];refine q _ _ _ (.inr ⟨_,cs,rfl,?_,c1⟩) ?_ (by simp);rw[nI,aI,if_pos rfl];intro k hk;rw[nI,aI,if_neg (Ne.symm hk)]
theorem ZH{f s esz:Nat}{ag:Bool}{h:Hp}{vs es:List AV}{Q:AV->Eff->Prop}{t:Tok Q}(hr:bQ pg f vs (pA esz ag es))(hm:treeL vs=true)(he:∀x∈es,El esz ag x)
  (q1:es=[]->∀nl cl,(nl||cl)=true->Q (.sl nl [] cl) (.pat [kb+s] []))
  (q2:∀cs,cK esz ag es=some cs->pK esz ag es.length cs=some es->Q (.rf (kb+s) (h.next (kb+s)) 0 es.length es.length) (.pat [kb+s] [⟨kb+s,h.next (kb+s),.blk cs esz ag false false⟩])):XO pg kb (.call f true false) s h vs Q t:=by
 obtain⟨r,hr,⟨rfl,nl,cl,rfl,hc⟩|rfl⟩:=hr;exact bZ hr hm rfl (q1 rfl nl cl hc);obtain⟨cs,c1,c2,_,c4⟩:=eD he;refine cR hr (fI 63 h hm) (v:=.rf (kb+s) (h.next (kb+s)) 0 es.length es.length) (pa:=[⟨kb+s,h.next (kb+s),.blk cs esz ag false false⟩]) (by simp[iO,c1]) ?_;have:(if (AV.os es esz ag).flat then ([]:List Ent) else gJ h [])=[]:=by split<;>rfl
 rw[this,fW];exact q2 cs c1 (by simpa using c4 [])
end
end
section
def bU(c:UInt8):Bool:=decide (48<=c.toNat)&&decide (c.toNat<=57)
def iG(c:UInt8):Bool:=decide (97<=c.toNat)&&decide (c.toNat<=122)
def iQ(s:List UInt8):Bool:=
 match s with
 |[]=>false
 | c::t=>decide (s.length<=30)&&(if c=95 then decide (2<=s.length)&&decide (s.length<=10) && !decide (t.head?=some 48)&&t.all bU else iG c&&t.all (λx=>iG x||bU x))
def iH(s:List UInt8):Bool:=
 match s with
 |[]=>false
 |c::t=>decide (s.length<=30)&&(decide (65<=c.toNat)&&decide (c.toNat<=90))&&t.all bU
def v7(i:Nat):List UInt8:=[105,UInt8.ofNat (48+i)]
def pD(n:Int):Bool:=decide (-1000000<=n)&&decide (n<=1000000)
def mQ(p:List dQ):List dQ->Bool
 |[]=>true
 |x::r=>iQ x.v.bs && !decide (x.c=0)&&pD x.c&&(match p.getLast? with|none=>true|some q=>Op.bytesLess q.v.bs x.v.bs)&&mQ (p++[x]) r
def fU(l:Lin):Bool:=mQ [] l.ts.es&&pD l.c&&decide ((l.ts.es.length:Int)<=12)
section
variable{pg:Pg}
theorem c89(hf:pg.fs 89=some aAH)(n:Int):Ret pg 89 [.int .i64 n] (.bool (pD n)):=by
 refine Ret.ofX hf ?_;unfold aAH
 repeat' (first|simp only[*,go_sem,seval]|refine bB (λ_=>?_) (λ_=>?_)|refine bD (λ_=>?_) (λ_=>?_)|refine aY ?_)
 all_goals simp[pD, *]
theorem c126(hf:pg.fs 126=some DN)(s p:List UInt8):Ret pg 126 [.str s,.str p] (.bool (decide (p.length<=s.length)&&decide (s.take p.length=p))):=by
 refine Ret.ofX hf ?_;unfold DN;refine Wk ?_;cases h:decide (p.length<=s.length);have h':decide ((p.length:Int)<=s.length)=false:=by simp at h ⊢;omega
 simp only[h',go_sem,seval];have h':decide ((p.length:Int)<=s.length)=true:=by simp at h ⊢;omega
 simp only[h',go_sem,seval];have h2:(0:Int)<=p.length/\(p.length:Int)<=s.length:=by simp at h;omega
 simp[kX,h2,val,XV,TS];simp only[h',h2,go_sem,seval]
theorem c91(hf:pg.fs 91=some U7)(h126:pg.fs 126=some DN)(s p:List UInt8):Ret pg 91 [.str s,.str p] (.bool (decide (p.length<=s.length)&&decide (s.take p.length=p))):=by refine Ret.ofX hf ?_;unfold U7;refine Wk ?_;refine aB (c126 h126 s p) ?_;simp only[go_sem,seval]
theorem c51(hf:pg.fs 51=some aDN)(h89:pg.fs 89=some aAH)(h57:∀s:Str,Ret pg 57 [.str s.bs] (.bool (iQ s.bs)))(l:Lin):Ret pg 51 [l.av] (.bool (fU l)):=by
 refine Ret.ofX hf ?_;unfold aDN;refine Wk ?_
 refine aJ l.ts.es (λd r env hp=>hp.get 1=some (0,.blk [.int .i64 l.c,.sl l.ts.nl (l.ts.es.map dQ.av) l.ts.cl] 2 true true false) /\
  env=V0 (.pt 1 0 0) (.sl l.ts.nl (l.ts.es.map dQ.av) l.ts.cl) (.int .i64 l.ts.es.length) (.int .i64 d.length)/\fU l=(mQ d r&&pD l.c&&decide ((l.ts.es.length:Int)<=12))) ?_ ?_ ?_
 exact⟨rfl,rfl,rfl⟩;rintro env hp ⟨h1,rfl,hq⟩;unfold VZ V0;simp only[Int.lt_irrefl,h1,go_sem,seval];refine aB (c89 h89 _) ?_;simp only[h1,go_sem,seval];simp only[mQ]at hq;cases h9:pD l.c;refine Wk ?_;simp[hq,h9];simp only[h1,go_sem,seval];simp[hq,h9];rintro d x r env hp hes ⟨h1,rfl,hq⟩;have hb:=l.ts.ok;rw[hes]at hb h1 hq ⊢;unfold VZ V0;refine Wk ?_;refine aB (h57 x.v) ?_;simp only[mQ]at hq;refine Wk ?_;cases hn:iQ x.v.bs;refine Wk ?_;refine aY ?_;simp[hq,hn];cases hc:decide (x.c=0)
 case true=>simp only[hc,go_sem,seval];refine aY ?_;simp[hq,hc]
 simp only[hc,go_sem,seval];refine aB (c89 h89 x.c) (Wk ?_);cases h9:pD x.c;refine Wk ?_;refine aY ?_;simp[hq,h9];cases hd:decide (0<(d.length:Int));simp only[hd,aZ hb,go_sem,seval];refine And.intro (by kernel_rfl) ⟨h1,rfl,?_⟩;have:d=[]:=by cases d<;>simp_all<;>omega
 subst this;simp[hq,h9,hc,hn];obtain⟨d',y,rfl⟩:∃d' y,d=d'++[y]:=by
  rcases mO d with rfl|⟨d',y,h⟩
  simp at hd;exact⟨d',y,by simpa using h⟩
 have hy:(d'++[y]++x::r)[(wr .i64 (((d'++[y]).length:Int)-1)).toNat]?=some y:=by
  have:wr .i64 (((d'++[y]).length:Int)-1)=(d'.length:Int):=by simp only[dC,List.length_cons,List.length_nil,big]at *;rw[aU (by omega) (by omega)];omega
  rw[this];simp
 have hy0:(0<=wr .i64 (((d'++[y]).length:Int)-1))=True:=by
  have:wr .i64 (((d'++[y]).length:Int)-1)=(d'.length:Int):=by simp only[dC,List.length_cons,List.length_nil,big]at *;rw[aU (by omega) (by omega)];omega
  rw[this];simp
 simp only[hd,h1,hy,hy0,go_sem,seval];cases hl:Op.bytesLess y.v.bs x.v.bs;refine Wk ?_;refine aY ?_;simp[hq,hl];simp only[aZ hb,go_sem,seval];refine And.intro (by kernel_rfl) ⟨h1,rfl,?_⟩;simp[hq,h9,hc,hn,hl]
theorem El.str(s:List UInt8):El 1 false (.str s):=⟨rfl,rfl,rfl⟩
theorem El.int(n:Int):El 1 false (.int .i64 n):=⟨rfl,rfl,rfl⟩
theorem El.bool(b:Bool):El 1 false (.bool b):=⟨rfl,rfl,rfl⟩
theorem c96(hf:pg.fs 96=some aAE)(l:Lin):bQ pg 96 [l.av] (pA 1 false (l.ts.es.map λx => .str x.v.bs)):=by
 refine bQ.ofX hf ?_;have hb:=l.ts.ok
 have hel:∀d:List dQ,∀x∈d.map (λx:dQ=>AV.str x.v.bs),El 1 false x:=by intro d x hx;simp only[List.mem_map]at hx;obtain⟨y,_,rfl⟩:=hx;exact El.str _
 unfold aAE;refine Wk ?_;refine aJ l.ts.es (λd r env hp=>∃v,env=U6 v (.sl l.ts.nl (l.ts.es.map dQ.av) l.ts.cl) (.int .i64 l.ts.es.length) (.int .i64 d.length)/\Own hp 9 1 false v (d.map λx => .str x.v.bs)) ?_ ?_ ?_;exact⟨_,rfl,Own.nil _ _ _ _ _ _ rfl⟩;rintro env hp ⟨v,rfl,ho⟩;simp only[U5,U6,go_sem,seval];exact ho.conv (hel _);rintro d x r env hp hes ⟨v,rfl,ho⟩;rw[hes]at hb ⊢;simp only[U5,U6,go_sem,seval];refine gR (kb:=0) (s:=9) (bytes:=16) (es:=d.map λx => .str x.v.bs) (ho.mono ?_) (hel _) (xs:=[.str x.v.bs]) (by intro y hy;simp at hy;subst hy;exact El.str _) ?_ (by decide) ?_;simp only[go_sem,seval];simp only[dC,List.length_cons,List.length_nil,aM,big]at *;omega;intro v' rd pa ho' hk hpa;simp only[aZ hb,go_sem,seval];exact⟨v',rfl,by simpa using ho'⟩
theorem c138(hf:pg.fs 138=some DL)(nl cl:Bool)(es:List Str)(hb:es.length<=big)(v:List UInt8) :
  bQ pg 138 [.sl nl (es.map Str.av) cl,.str v] (λr=>∃i:Int,r = .int .i64 i/\decide (0<=i)=es.any (λs=>decide (v=s.bs))):=
 LM (f:=138) (k:=.bin .eql) hf Str.av (λ_=>rfl) nl cl es hb (.str v) (λs=>decide (v=s.bs)) (by intro kb s h x Q t;simp only[go_sem,seval])
theorem c98(hf:pg.fs 98=some U4)(h138:pg.fs 138=some DL)(nl cl:Bool)(es:List Str)(hb:es.length<=big)(v:List UInt8) :
  Ret pg 98 [.sl nl (es.map Str.av) cl,.str v] (.bool (es.any (λs=>decide (v=s.bs)))):=
 rO (n:=138) hf (by simp only[go_sem,seval]) (c138 h138 nl cl es hb v)
def mD(vars:List Str)(v:List UInt8):Bool:=vars.any (λs=>decide (v=s.bs))
def d4(ls:List Lin)(vars:List Str):Bool:=ls.all λl=>fU l&&l.ts.es.all λx=>mD vars x.v.bs
theorem c97{f:Nat}(hf:pg.fs f=some aAD)(h98:pg.fs 98=some U4)(h138:pg.fs 138=some DL)(nl cl:Bool)(es:List Str)(hb:es.length<=big)(v:List UInt8) :
  Ret pg f [.str v,.fp (.sl nl (es.map Str.av) cl)] (.bool (!mD es v)):=by
 refine Ret.ofX hf ?_;unfold aAD;refine Wk ?_;refine aB (c98 h98 h138 nl cl es hb v) (Wk ?_);rfl
theorem c137(hf:pg.fs 137=some KF)(nl cl:Bool)(es:List Str)(hb:es.length<=big)(g:Nat)(cs:List AV)(hcs:treeL cs=true)(p:Str->Bool)(hp:∀x∈es,Ret pg g (x.av::cs) (.bool (p x))) :
  bQ pg 137 [.sl nl (es.map Str.av) cl,.fn g cs] (λr=>∃i:Int,r = .int .i64 i/\decide (0<=i)=es.any p):=
 AB (f:=137) (esz:=1) (ag:=false) hf Str.av (λ_=>rfl) (λ_=>rfl) nl cl es hb g cs hcs p hp
theorem c95(hf:pg.fs 95=some aDk)(h137:pg.fs 137=some KF)(nl cl:Bool)(es:List Str)(hb:es.length<=big)(g:Nat)(cs:List AV)(hcs:treeL cs=true)(p:Str->Bool)(hp:∀x∈es,Ret pg g (x.av::cs) (.bool (p x))) :
  Ret pg 95 [.sl nl (es.map Str.av) cl,.fn g cs] (.bool (es.any p)):=
 rO (n:=137) hf (by simp only[treeL,qY,wZ,hcs,Str.treeL,fF]) (c137 h137 nl cl es hb g cs hcs p hp)
theorem PO{f g:Nat}(hf:pg.fs f=some (aHn g))(h51:∀l:Lin,Ret pg 51 [l.av] (.bool (fU l)))(h96:pg.fs 96=some aAE)(h95:pg.fs 95=some aDk)(h137:pg.fs 137=some KF)(h97:pg.fs g=some aAD)(h98:pg.fs 98=some U4)(h138:pg.fs 138=some DL)
  (nl cl:Bool) (ls:List Lin) (hb:ls.length<=big) (nl' cl':Bool) (vars:List Str) (hb':vars.length<=big):Ret pg f [.sl nl (ls.map Lin.av) cl,.sl nl' (vars.map Str.av) cl'] (.bool (d4 ls vars)):=by
 refine Ret.ofX hf ?_;unfold aHn;refine Wk ?_;refine fJ ls (λd e=>fP e (some 9) (.int .i64 d.length)) (λd r hp=>(∃fz,hp.get 1=some (0,.blk [.sl nl' (vars.map Str.av) cl'] 1 false true fz))/\d4 ls vars=d4 r vars) rfl ?_ ?_ ?_;exact⟨⟨_,rfl⟩,rfl⟩;rintro hp ⟨⟨fz,h1⟩,hI⟩;simp only[TR,TQ,go_sem,seval];rw[hI];rfl;rintro d x r hp hes ⟨⟨fz,h1⟩,hI⟩;subst hes;simp only[TR,TQ,go_sem,seval];refine aB (h51 x) (Wk ?_);cases hx:fU x;refine Wk ?_;rw[hI];simp[d4,hx];refine Wk ?_;refine mN (c96 h96 x) (by simp only[go_sem,seval]) ?_;intro nl2 cl2 hnl;refine Wk ?_;have hv:∀y∈x.ts.es.map (λc=>c.v),Ret pg g (y.av::[.fp (.sl nl' (vars.map Str.av) cl')]) (.bool (!mD vars y.bs)):=λy _=>c97 h97 h98 h138 nl' cl' vars hb' y.bs;have h9:=c95 h95 h137 nl2 cl2 (x.ts.es.map λc=>c.v) (by have:=x.ts.ok;simpa using this) g [.fp (.sl nl' (vars.map Str.av) cl')] (by simp only[go_sem,seval]) (λy => !mD vars y.bs) hv;have hm:List.map (λx=>AV.str x.v.bs) x.ts.es=List.map Str.av (x.ts.es.map λc=>c.v):=by simp[Str.av]
 rw[hm];refine cR (h9) (by simp only[ h1,depth,cW,bM,fE,go_sem,seval];rfl) (by first|rfl|simp only[iO]) (Wk ?_)
 have hany:(List.map (λc=>c.v) x.ts.es).any (λy => !mD vars y.bs) = !(x.ts.es.all λc=>mD vars c.v.bs):=by simp[List.any_map,List.not_all_eq_any_not];rfl
 rw[hany];cases hy:x.ts.es.all λc=>mD vars c.v.bs;refine Wk ?_;rw[hI];simp[d4,hx,hy];simp only[h1,aZ hb,go_sem,seval];exact⟨⟨fz,rfl⟩,by simpa[d4,hx,hy] using hI⟩
def iI(x y:dQ):Bool:=decide (x.v.bs=y.v.bs)&&decide (x.c=y.c)
def cN(a b:Lin):Bool:=decide (a.c=b.c)&&eqL iI a.ts.es b.ts.es
def iB(a b:cZ):Bool:=decide (a.row.bs=b.row.bs)&&eqL cN a.aSi.es b.aSi.es
def jH(a b:Typ):Bool:=decide (a.aSl.bs=b.aSl.bs)&&iB a.aSh b.aSh
theorem c106(hf:pg.fs 106=some DP)(nl cl nl' cl':Bool)(es es':List dQ)(hb:es.length<=big):Ret pg 106 [.sl nl (es.map dQ.av) cl,.sl nl' (es'.map dQ.av) cl'] (.bool (eqL iI es es')):=
 aCR (f:=106) (k:=.eqs true [1,0]) hf dQ.av (λ_=>by simp only[go_sem,seval]) nl cl nl' cl' es es' hb iI (by intro kb s h x y Q t;simp only[go_sem,seval];simp[iI]) rfl
theorem c142(hf:pg.fs 142=some KE)(h106:pg.fs 106=some DP)(a b:Lin):Ret pg 142 [a.av,b.av] (.bool (cN a b)):=by refine Ret.ofX hf ?_;unfold KE;refine Wk ?_;cases h:decide (a.c=b.c);refine Wk ?_;simp[cN,h];refine Wk ?_;refine aB (c106 h106 _ _ _ _ a.ts.es b.ts.es a.ts.ok) (Wk ?_);simp[cN,h]
theorem c68(hf:pg.fs 68=some aDB)(h106:pg.fs 106=some DP)(a b:Lin):Ret pg 68 [a.av,b.av] (.bool (cN a b)):=by refine Ret.ofX hf ?_;unfold aDB;refine Wk ?_;cases h:decide (a.c=b.c);refine Wk ?_;simp[cN,h];refine Wk ?_;refine aB (c106 h106 _ _ _ _ a.ts.es b.ts.es a.ts.ok) (Wk ?_);simp[cN,h]
theorem c143(hf:pg.fs 143=some R0)(h106:pg.fs 106=some DP)(a b:Lin):Ret pg 143 [a.av,b.av] (.bool (cN a b)):=by refine Ret.ofX hf ?_;unfold R0;refine Wk ?_;cases h:decide (a.c=b.c);refine Wk ?_;simp[cN,h];refine Wk ?_;refine aB (c106 h106 _ _ _ _ a.ts.es b.ts.es a.ts.ok) (Wk ?_);simp[cN,h]
theorem c67(hf:pg.fs 67=some aDC)(g:Nat)(hg:∀a b:Lin,Ret pg g [a.av,b.av] (.bool (cN a b)))(nl cl nl' cl':Bool)(es es':List Lin)(hb:es.length<=big) :
  Ret pg 67 [.sl nl (es.map Lin.av) cl,.sl nl' (es'.map Lin.av) cl',.fn g []] (.bool (eqL cN es es')):=
 UW (f:=67) (esz:=2) (ag:=true) rfl hf Lin.av (λx=>[.int .i64 x.c,x.ts.av dQ.av]) (λ_=>rfl) (λ_=>rfl) (λ_=>rfl) rfl (λx=>by simp only[go_sem,seval]) nl cl nl' cl' es es' hb g cN (λx _ y _=>hg x y)
theorem c104(hf:pg.fs 104=some SF)(h67:pg.fs 67=some aDC)(h142:pg.fs 142=some KE)(h106:pg.fs 106=some DP)(a b:cZ):Ret pg 104 [a.av,b.av] (.bool (iB a b)):=by refine Ret.ofX hf ?_;unfold SF;refine Wk ?_;cases h:decide (a.row.bs=b.row.bs);refine Wk ?_;simp[iB,h];refine Wk ?_;refine aB (c67 h67 142 (c142 h142 h106) _ _ _ _ a.aSi.es b.aSi.es a.aSi.ok) (Wk ?_);simp[iB,h]
theorem c65(hf:pg.fs 65=some aDE)(h104:∀a b:cZ,Ret pg 104 [a.av,b.av] (.bool (iB a b)))(a b:Typ):Ret pg 65 [a.av,b.av] (.bool (jH a b)):=by refine Ret.ofX hf ?_;unfold aDE;refine Wk ?_;cases h:decide (a.aSl.bs=b.aSl.bs);refine Wk ?_;simp[jH,h];refine Wk ?_;refine aB (h104 a.aSh b.aSh) (Wk ?_);simp[jH,h]
end
end
section
def iE:List UInt8:=[105,110,116]
def mG:List UInt8:=[98,111,111,108]
def sA:List UInt8:=[65]
structure xU where
 op:List UInt8
 params:List (List UInt8)
 result:List UInt8
def lP:List xU:=[
 ⟨[97,100,100],[iE,iE],iE⟩,⟨[115,117,98],[iE,iE],iE⟩,⟨[109,117,108],[iE,iE],iE⟩,⟨[100,105,118],[iE,iE],iE⟩,⟨[109,111,100],[iE,iE],iE⟩,
 ⟨[109,105,110],[iE,iE],iE⟩,⟨[109,97,120],[iE,iE],iE⟩,⟨[110,101,103],[iE],iE⟩,⟨[97,98,115],[iE],iE⟩,⟨[115,105,103,110],[iE],iE⟩,
 ⟨[108,116],[iE,iE],mG⟩,⟨[108,101],[iE,iE],mG⟩,⟨[103,116],[iE,iE],mG⟩,⟨[103,101],[iE,iE],mG⟩,⟨[101,113],[sA,sA],mG⟩,⟨[110,101],[sA,sA],mG⟩,
 ⟨[97,110,100],[mG,mG],mG⟩,⟨[111,114],[mG,mG],mG⟩,⟨[120,111,114],[mG,mG],mG⟩,⟨[110,111,116],[mG],mG⟩,
 ⟨[115,101,108,101,99,116],[mG,sA,sA],sA⟩,⟨[116,111,105,110,116],[mG],iE⟩]
def xU.cells(r:xU):List AV:=[.str r.op,.sl false (r.params.map .str) true,.str r.result]
def aBy:AV:=.agg (lP.flatMap xU.cells)
def kK(op:List UInt8):Option xU:=lP.find? λr=>decide (r.op=op)
section
variable{pg:Pg}
theorem c107(hf:pg.fs 107=some HF)(nl cl:Bool)(es:List AV)(hel:∀x∈es,El 1 false x)(hb:es.length<=big)(hnl:nl=true->es=[]):bQ pg 107 [.sl nl es cl] (pA 1 false es):=by refine bQ.ofX hf ?_;unfold HF;refine Wk ?_;cases nl;refine Wk ?_;refine gR (kb:=0) (s:=1) (bytes:=16) (es:=[]) (xs:=es) (Own.nil _ _ _ _ _ _ rfl) (by simp) hel ?_ (by decide) ?_;simp only[List.length_nil,big]at *;omega;intro v' rd pa ho hk hpa;refine Wk ?_;exact ho.conv (by simpa using hel);refine Wk ?_;exact .inl ⟨hnl rfl,true,true,rfl,rfl⟩
theorem c177(hf:pg.fs 177=some HB):Ret pg 177 [] aBy:=
 Ret.closed (.n 177 HB .e .e) (by intro f cf h;have:=BT.All.find (p:=λf cf=>pg.fs f=some cf) (t:=.n 177 HB .e .e) ⟨hf,trivial,trivial⟩ h;exact this) 2 (by kernel_rfl)
theorem aIM(d:List xU)(x:xU)(r:List xU):jR ((d++x::r).flatMap xU.cells) (d.length*3) 3 true=some (.agg x.cells):=by
 have hl:∀l:List xU,(l.flatMap xU.cells).length=l.length*3:=by
  intro l
  induction l with
  |nil=>rfl
  |cons y s ih=>simp[xU.cells,ih];omega
 rw[IV,if_pos (by rw[hl];simp;omega)];rw[List.flatMap_append,List.drop_append_of_le_length (by rw[hl];omega),List.drop_eq_nil_of_le (by rw[hl];omega),fW];rw[List.flatMap_cons];have:x.cells.length=3:=rfl;rw[<-this,List.take_left]
def kV(op:List UInt8)(r:AV):Prop:=
 match kK op with
 |none=>r = .tup [.sl true [] true,.str [],.bool false]
 |some p=>∃nl cl,r = .tup [.sl nl (p.params.map .str) cl,.str p.result,.bool true]
theorem c140(hf:pg.fs 140=some R2)(h177:pg.fs 177=some HB)(h107:pg.fs 107=some HF)(op:List UInt8):bQ pg 140 [.str op] (kV op):=by
 refine bQ.ofX hf ?_;unfold R2;refine Wk ?_;refine aB (c177 h177) (Wk ?_);have h22:(22:Int)=lP.length:=rfl;refine fJ lP (λd e=>fP e (some 8) (.int .i64 d.length)) (λd r hp=>kK op=r.find? λx=>decide (x.op=op)) rfl ?_ ?_ ?_;rfl;intro hp hI;simp only[NX,NW,<-h22,go_sem,seval];simp[kV,hI];intro d x r hp hes hI;have hlt:decide ((d.length:Int)<22)=true:=by rw[h22,hes];exact aHq d x r
 have hlt':((d.length:Int)<22)=True:=by simpa using hlt
 have hpa:jR (lP.flatMap xU.cells) (d.length*3) 3 true=some (.agg x.cells):=by rw[hes];exact aIM d x r
 have hb:(d++x::r).length<=big:=by rw[<-hes];decide
 have hlt'':((d.length:Int)<((22:Nat):Int))=True:=by simpa using hlt
 simp only[NX,NW,aBy,hlt,hlt',hlt'',hpa,xU.cells,go_sem,seval];cases hx:decide (x.op=op);simp only[aZ hb,go_sem,seval];simpa[List.find?_cons,hx] using hI;refine Wk ?_;have hel:∀y∈x.params.map AV.str,El 1 false y:=by intro y hy;simp only[List.mem_map]at hy;obtain⟨z,_,rfl⟩:=hy;exact El.str z
 have hI':kK op=some x:=by simpa[List.find?_cons,hx] using hI
 refine ZH (c107 h107 false true (x.params.map .str) hel ?_ (by simp)) ?_ hel ?_ ?_;have:∀y∈lP,y.params.length<=big:=by decide
 simpa using this x (by rw[hes];simp);simp only[treeL,qY,fF];exact cH (f:=AV.str) (λ_=>rfl) x.params;intro hnil nl cl _;refine Wk ?_;refine aY ?_;simp only[kV,hI'];exact⟨nl,cl,by rw[hnil]⟩;intro cs hcs hch;refine Wk ?_;refine aY ?_;have htr:treeL (x.params.map AV.str)=true:=cH (f:=AV.str) (λ_=>rfl) x.params;have hms:∀h,eN (snap 62 h) (x.params.map AV.str)=some (x.params.map AV.str,[]):=λh=>fI 61 h htr;have hch':pK 1 false x.params.length cs=some (x.params.map AV.str):=by simpa using hch
 simp only[hms,hch',kV,hI',conv,depth,fE,cW,bM,go_sem,seval];exact⟨false,_,rfl⟩
def oN(n:Int):Bool:=decide (-2147483648<=n)&&decide (n<=2147483647)
def uG(n:Int):Bool:=decide (n=0)||decide (n=1)
theorem aIt(hf:pg.fs 148=some A2)(n:Int):Ret pg 148 [.str [105,110,116],.int .i64 n] (.bool (oN n)):=by
 refine Ret.ofX hf ?_;unfold A2
 repeat' (first|simp only[*,go_sem,seval]|refine bB (λ_=>?_) (λ_=>?_)|refine bD (λ_=>?_) (λ_=>?_)|refine aY ?_)
 all_goals simp[oN, *]
theorem aMl(hf:pg.fs 148=some A2)(n:Int):Ret pg 148 [.str [98,111,111,108],.int .i64 n] (.bool (uG n)):=by
 refine Ret.ofX hf ?_;unfold A2;refine Wk ?_;simp only[show decide (([98,111,111,108]:List UInt8)=[105,110,116])=false by decide]
 repeat' (first|simp only[*,go_sem,seval]|refine bB (λ_=>?_) (λ_=>?_)|refine bD (λ_=>?_) (λ_=>?_)|refine aY ?_)
 all_goals simp[uG, *]
def kH(l:List Int)(n:Int):Bool:=l.all λa=>decide (0<=a)&&decide (a<n)
def kE(s:aP)(n:Int):Bool:=
 if s.op.bs=[99,111,110,115,116] then decide ((s.args.es.length:Int)=0)&&oN s.num
 else if s.op.bs=[116,114,117,116,104] then decide ((s.args.es.length:Int)=0)&&uG s.num
 else match kK s.op.bs with
  |none=>false
  |some p=>kH s.args.es n&&decide (s.num=0)&&decide ((s.args.es.length:Int)=(p.params.length:Int))
theorem c111(hf:pg.fs 111=some SC)(h148:pg.fs 148=some A2)(h140:∀op,bQ pg 140 [.str op] (kV op))(s:aP)(n:Int):Ret pg 111 [s.av,.int .i64 n] (.bool (kE s n)):=by
 refine Ret.ofX hf ?_;have hb:=s.args.ok;unfold SC;refine Wk ?_;cases h1:decide (s.op.bs=[99,111,110,115,116])
 case true=>refine Wk ?_;cases h2:decide ((s.args.es.length:Int)=0);simp only[h2,go_sem,seval];simp at h1 h2;simp[kE,h1,h2];simp only[h2,go_sem,seval];refine aB (aIt h148 s.num) (Wk ?_);simp at h1 h2;simp[kE,h1,h2]
 refine Wk ?_;cases h3:decide (s.op.bs=[116,114,117,116,104])
 case true=>refine Wk ?_;cases h2:decide ((s.args.es.length:Int)=0);simp only[h2,go_sem,seval];simp at h1 h2 h3;simp[kE,h1,h2,h3];simp only[h2,go_sem,seval];refine aB (aMl h148 s.num) (Wk ?_);simp at h1 h2 h3;simp[kE,h1,h2,h3]
 refine Wk ?_;obtain⟨r,hr,hP⟩:=h140 s.op.bs
 have hspec:kE s n=match kK s.op.bs with
  |none=>false
  |some p=>kH s.args.es n&&decide (s.num=0)&&decide ((s.args.es.length:Int)=(p.params.length:Int)):=by
  simp at h1 h3;simp[kE,h1,h3]
 generalize kE s n=res at hspec ⊢;obtain⟨nl,cl,ps,rs,ok,rfl,hres⟩:∃nl cl,∃ps:List (List UInt8),∃rs ok,r = .tup [.sl nl (ps.map .str) cl,.str rs,.bool ok]/\res=(ok&&kH s.args.es n&&decide (s.num=0)&&decide ((s.args.es.length:Int)=(ps.length:Int))):=by
  unfold kV at hP;cases hp:kK s.op.bs with
  |none=>rw[hp]at hP hspec;exact⟨_,_,[],_,_,hP,by simp[hspec]⟩
  |some p=>rw[hp]at hP hspec;obtain⟨nl,cl,hP⟩:=hP;exact⟨_,_,p.params,_,_,hP,by simp[hspec]⟩
 refine aB hr (Wk ?_)
 refine fJ s.args.es (λd e=>fP (fP e (some 44) (.int .i64 d.length)) (some 7) (.bool (ok&&kH d n))) (λd r hp=>(∃fz,hp.get 1=some (0,.blk [.str s.op.bs,.int .i64 s.num,.sl s.args.nl (s.args.es.map aH) s.args.cl] 3 true true fz)))
  (by have h0:(ok&&kH [] n)=ok:=by simp[kH]
      rw[h0];rfl) ?_ ?_ ?_
 exact⟨_,rfl⟩;rintro hp ⟨fz,h1⟩;simp only[N5,N4,go_sem,seval];cases h4:ok&&kH s.args.es n;simp only[h4,h1,go_sem,seval];simp[hres,h4];cases h5:decide (s.num=0);simp only[h1,h5,go_sem,seval];simp[hres,h4,h5];simp only[h1,h5,go_sem,seval];simp[hres,h4,h5]
 ·rintro d x r hp hes ⟨fz,h1⟩;rw[hes]at hb h1 ⊢;have hx:(ok&&kH (d++[x]) n)=((ok&&kH d n)&&(decide (0<=x)&&decide (x<n))):=by simp[kH,Bool.and_assoc]
  rw[hx];cases hA:(ok&&kH d n)<;>cases hB:decide (0<=x)<;>cases hC:decide (x<n)
  all_goals simp only[N5,N4,hA,hB,hC,aZ hb,go_sem,seval]
  all_goals exact⟨fz,h1⟩
end
end
section
structure aBh(pg:Pg):Prop where
 name:∀s:Str,Ret pg 57 [.str s.bs] (.bool (iQ s.bs))
 trim:∀s:List UInt8,s.length<=big->∃t,Ret pg 94 [.str s,.str [48,49,50,51,52,53,54,55,56,57]] (.str t)/\decide (t=[])=s.all bU
 loop:∀i:Nat,i<10->Ret pg 108 [.int .i64 i] (.str (v7 i))
def DX(s:List UInt8):Bool:=
 match s with
 | c::d::t=>(decide ((c.toNat:Int)=105)||decide ((c.toNat:Int)=106))&&(d::t).all bU
 |_=>false
def oK(s:cZ):Bool:=(decide (s.row.bs=[])||iQ s.row.bs)&&decide ((s.aSi.es.length:Int)<=6)&&s.aSi.es.all fU
def uX(t:Typ):Bool:=(decide (t.aSl.bs=[105,110,116])||decide (t.aSl.bs=[98,111,111,108])||iH t.aSl.bs)&&oK t.aSh
def hY(t:Typ)(vars:List Str):Bool:=uX t && !iH t.aSl.bs&&decide (t.aSh.row.bs=[])&&d4 t.aSh.aSi.es vars
def nQ(p:List Str):List Str->Bool
 |[]=>true
 |x::r=>iQ x.bs && !DX x.bs&&(match p.getLast? with|none=>true|some q=>Op.bytesLess q.bs x.bs)&&nQ (p++[x]) r
section
variable{pg:Pg}
theorem c101(B:aBh pg)(hf:pg.fs 101=some SH)(s:Str):Ret pg 101 [.str s.bs] (.bool (iH s.bs)):=by
 obtain⟨s,hb⟩:=s;refine Ret.ofX hf ?_;unfold SH;cases s with
 |nil=>
  repeat' (first|simp only[*,go_sem,seval]|refine bB (λ_=>?_) (λ_=>?_)|refine bD (λ_=>?_) (λ_=>?_)|refine aY ?_)
  all_goals simp_all [iH]
 |cons c t=>
  obtain⟨u,hu,hd⟩:=B.trim t (by simp[big]at hb ⊢;omega);have hl:¬((↑(t.length+1):Int)<1):=by omega
  repeat' (first|simp only[*,go_sem,seval]|refine bB (λ_=>?_) (λ_=>?_)|refine bD (λ_=>?_) (λ_=>?_)|(refine aB hu ?_)|refine aY ?_)
  all_goals (simp_all [iH])
  all_goals (try omega)
theorem c58(B:aBh pg)(hf:pg.fs 58=some aDK)(s:Str):Ret pg 58 [.str s.bs] (.bool (DX s.bs)):=by
 obtain⟨s,hb⟩:=s;refine Ret.ofX hf ?_;unfold aDK
 match s,hb with
 |[],hb=>
  repeat' (first|simp only[*,go_sem,seval]|refine bB (λ_=>?_) (λ_=>?_)|refine bD (λ_=>?_) (λ_=>?_)|refine aY ?_)
  all_goals simp_all [DX]
 |[c],hb=>
  repeat' (first|simp only[*,go_sem,seval]|refine bB (λ_=>?_) (λ_=>?_)|refine bD (λ_=>?_) (λ_=>?_)|refine aY ?_)
  all_goals simp_all [DX]
 |c::d::t,hb=>
  obtain⟨u,hu,hd⟩:=B.trim (d::t) (by simp[big]at hb ⊢;omega);have hl:decide ((1:Int) < ↑(t.length+1+1))=true:=by simp;omega
  repeat' (first|simp only[*,go_sem,seval]|refine bB (λ_=>?_) (λ_=>?_)|refine bD (λ_=>?_) (λ_=>?_)|(refine aB hu ?_)|refine aY ?_)
  all_goals (simp_all [DX])
  all_goals (try omega)
theorem c176(hf:pg.fs 176=some J9)(h51:∀l:Lin,Ret pg 51 [l.av] (.bool (fU l)))(l:Lin):Ret pg 176 [l.av] (.bool (!fU l)):=by
 refine Ret.ofX hf ?_;unfold J9
 repeat' (first|simp only[*,go_sem,seval]|refine bB (λ_=>?_) (λ_=>?_)|refine bD (λ_=>?_) (λ_=>?_)|(refine aB (h51 l) ?_)|refine aY ?_)
theorem c205(hf:pg.fs 205=some J6)(nl cl:Bool)(es:List Lin)(hb:es.length<=big)(g:Nat)(cs:List AV)(hcs:treeL cs=true)(p:Lin->Bool)(hp:∀x∈es,Ret pg g (x.av::cs) (.bool (p x))) :
  bQ pg 205 [.sl nl (es.map Lin.av) cl,.fn g cs] (λr=>∃i:Int,r = .int .i64 i/\decide (0<=i)=es.any p):=
 AB (f:=205) (esz:=2) (ag:=true) hf Lin.av (λ_=>by simp only[go_sem,seval]) (λ_=>by simp only[go_sem,seval]) nl cl es hb g cs hcs p hp
theorem c175(hf:pg.fs 175=some RV)(h205:pg.fs 205=some J6)(nl cl:Bool)(es:List Lin)(hb:es.length<=big)(g:Nat)(cs:List AV)(hcs:treeL cs=true)(p:Lin->Bool)(hp:∀x∈es,Ret pg g (x.av::cs) (.bool (p x))) :
  Ret pg 175 [.sl nl (es.map Lin.av) cl,.fn g cs] (.bool (es.any p)):=
 rO (n:=205) hf (by simp only[treeL,qY,wZ,hcs,Lin.treeL_av,fF]) (c205 h205 nl cl es hb g cs hcs p hp)
theorem c139(B:aBh pg)(hf:pg.fs 139=some R3)(h175:pg.fs 175=some RV)(h205:pg.fs 205=some J6)(h176:pg.fs 176=some J9)(h51:∀l:Lin,Ret pg 51 [l.av] (.bool (fU l)))(s:cZ) :
  Ret pg 139 [s.av] (.bool (oK s)):=by
 refine Ret.ofX hf ?_;have hc:=c175 h175 h205 s.aSi.nl s.aSi.cl s.aSi.es s.aSi.ok 176 [] rfl (λl => !fU l) (λl _=>c176 h176 h51 l);unfold R3
 repeat' (first|simp only[*,go_sem,seval]|refine bB (λ_=>?_) (λ_=>?_)|refine bD (λ_=>?_) (λ_=>?_)|(refine aB (B.name s.row) ?_)|(refine aB hc ?_)|refine aY ?_)
 all_goals (have hany:(s.aSi.es.any λl => !fU l) = !(s.aSi.es.all fU):=by rw[List.not_all_eq_any_not])
 all_goals (simp_all [oK])
 all_goals (intro h;exfalso;omega)
theorem c100(hf:pg.fs 100=some SI)(h101:∀s:Str,Ret pg 101 [.str s.bs] (.bool (iH s.bs)))(h139:∀s:cZ,Ret pg 139 [s.av] (.bool (oK s)))(t:Typ):Ret pg 100 [t.av] (.bool (uX t)):=by
 refine Ret.ofX hf ?_;unfold SI
 repeat' (first|simp only[*,go_sem,seval]|refine bB (λ_=>?_) (λ_=>?_)|refine bD (λ_=>?_) (λ_=>?_)|(refine aB (h101 t.aSl) ?_)|(refine aB (h139 t.aSh) ?_)|refine aY ?_)
 all_goals (simp_all [uX])
theorem c62(hf:pg.fs 62=some aDH)(h100:∀t:Typ,Ret pg 100 [t.av] (.bool (uX t)))(h101:∀s:Str,Ret pg 101 [.str s.bs] (.bool (iH s.bs)))
  (h59:∀(nl cl:Bool)(ls:List Lin),ls.length<=big->∀(nl' cl':Bool)(vars:List Str),vars.length<=big->Ret pg 59 [.sl nl (ls.map Lin.av) cl,.sl nl' (vars.map Str.av) cl'] (.bool (d4 ls vars)))
  (t:Typ) (nl cl:Bool) (vars:List Str) (hb:vars.length<=big):Ret pg 62 [t.av,.sl nl (vars.map Str.av) cl] (.bool (hY t vars)):=by
 refine Ret.ofX hf ?_;unfold aDH
 repeat' (first|simp only[*,go_sem,seval]|refine bB (λ_=>?_) (λ_=>?_)|refine bD (λ_=>?_) (λ_=>?_)|(refine aB (h100 t) ?_)|(refine aB (h101 t.aSl) ?_)|(refine aB (h59 _ _ t.aSh.aSi.es t.aSh.aSi.ok nl cl vars hb) ?_)|refine aY ?_)
 all_goals (simp_all [hY])
theorem c61(hf:pg.fs 61=some aDI)(h62:∀(t:Typ) (nl cl:Bool) (vars:List Str),vars.length<=big->Ret pg 62 [t.av,.sl nl (vars.map Str.av) cl] (.bool (hY t vars)))(t:Typ)(k:aA) :
  Ret pg 61 [t.av,.fp k.av] (.bool (!hY t k.vars.es)):=by
 refine Ret.ofX hf ?_;unfold aDI
 repeat' (first|simp only[*,go_sem,seval]|refine bB (λ_=>?_) (λ_=>?_)|refine bD (λ_=>?_) (λ_=>?_)|(refine aB (h62 t _ _ k.vars.es k.vars.ok) ?_)|refine aY ?_)
theorem c99(hf:pg.fs 99=some aAC)(nl cl:Bool)(es:List Typ)(hb:es.length<=big)(g:Nat)(cs:List AV)(hcs:treeL cs=true)(p:Typ->Bool)(hp:∀x∈es,Ret pg g (x.av::cs) (.bool (p x))) :
  bQ pg 99 [.sl nl (es.map Typ.av) cl,.fn g cs] (λr=>∃i:Int,r = .int .i64 i/\decide (0<=i)=es.any p):=
 AB (f:=99) (esz:=3) (ag:=true) hf Typ.av (λ_=>by simp only[go_sem,seval]) (λ_=>by simp only[go_sem,seval]) nl cl es hb g cs hcs p hp
theorem c60(hf:pg.fs 60=some aDJ)(h99:pg.fs 99=some aAC)(nl cl:Bool)(es:List Typ)(hb:es.length<=big)(g:Nat)(cs:List AV)(hcs:treeL cs=true)(p:Typ->Bool)(hp:∀x∈es,Ret pg g (x.av::cs) (.bool (p x))) :
  Ret pg 60 [.sl nl (es.map Typ.av) cl,.fn g cs] (.bool (es.any p)):=
 rO (n:=99) hf (by simp only[treeL,qY,wZ,hcs,Typ.treeL_av,fF]) (c99 h99 nl cl es hb g cs hcs p hp)
def bJ(k:aA):Bool:=
 nQ [] k.vars.es&&(decide ((k.vars.es.length:Int)<=12)&&d4 k.aSk.es k.vars.es&&decide (0<=k.aSg)&&decide (k.aSg<=8)&&decide (k.aSg<=k.aSe.es.length)&&decide ((k.aSe.es.length:Int)<=k.aSg+400) &&
  decide ((k.aSf.es.length:Int)<=400)&&k.aSe.es.all λt=>hY t k.vars.es)
theorem c43(B:aBh pg)(hf:pg.fs 43=some aDQ)(h58:∀s:Str,Ret pg 58 [.str s.bs] (.bool (DX s.bs)))
  (h59:∀(nl cl:Bool)(ls:List Lin),ls.length<=big->∀(nl' cl':Bool)(vars:List Str),vars.length<=big->Ret pg 59 [.sl nl (ls.map Lin.av) cl,.sl nl' (vars.map Str.av) cl'] (.bool (d4 ls vars)))
  (h60:pg.fs 60=some aDJ) (h99:pg.fs 99=some aAC) (h61:∀(t:Typ)(k:aA),Ret pg 61 [t.av,.fp k.av] (.bool (!hY t k.vars.es))) (k:aA):Ret pg 43 [k.av] (.bool (bJ k)):=by
 have hb:=k.vars.ok;have hbl:=k.aSe.ok;have hall:=c60 h60 h99 k.aSe.nl k.aSe.cl k.aSe.es k.aSe.ok 61 [.fp k.av] (by simp only[go_sem,seval]) (λt => !hY t k.vars.es) (λt _=>h61 t k);have hov:=h59 k.aSk.nl k.aSk.cl k.aSk.es k.aSk.ok k.vars.nl k.vars.cl k.vars.es k.vars.ok;refine Ret.ofX hf ?_;unfold aDQ;refine Wk ?_;refine fJ k.vars.es (λd e=>fP e (some 8) (.int .i64 d.length)) (λd r hp=>(hp.get 1=some (0,.blk k.cells 6 true true false))/\nQ [] k.vars.es=nQ d r) rfl ?_ ?_ ?_;exact⟨rfl,rfl⟩
 ·rintro hp ⟨h1,hI⟩;simp only[nQ]at hI;simp only[aA.cells,Sl.av]at h1;have hinp:decide (8<k.aSg)=false->decide (k.aSg<0)=false->wr .i64 (k.aSg+400)=k.aSg+400:=by intro a b;simp at a b;exact aU (by omega) (by omega)
  have hany:(k.aSe.es.any λt => !hY t k.vars.es) = !(k.aSe.es.all λt=>hY t k.vars.es):=by rw[List.not_all_eq_any_not]
  have hov':=hov;simp only[V5,V4];clear h59 h60 h99 h61 h58
  repeat' (first|simp only[*,go_sem,seval]|refine bB (λ_=>?_) (λ_=>?_)|refine bD (λ_=>?_) (λ_=>?_)|(refine aB hov' ?_)|(refine cR (hall) (by simp only[ h1,depth,cW,bM,fE,go_sem,seval];rfl) (by first|rfl|simp only[iO]) ?_)|refine aY ?_)
  all_goals (clear hall hov hov' hf B)
  all_goals (simp only[aR,eJ]at *)
  all_goals (clear h1 hp hb hbl)
  all_goals (try rw[hany])
  all_goals (clear hany hinp)
  all_goals (simp only[bJ,hI,cE])
  all_goals (simp_all)
  all_goals (try omega)
 rintro d x r hp hes ⟨h1,hI⟩;have h0:=h1;rw[hes]at hb hI;rw[hes];simp only[nQ]at hI;simp only[aA.cells,Sl.av]at h1;rw[hes]at h1;simp only[V5,V4,h1,go_sem,seval];refine aB (B.name x) (Wk ?_);cases hn:iQ x.bs;refine Wk ?_;simp[bJ,hes,hI,hn];refine Wk ?_;refine aB (h58 x) (Wk ?_);cases hr:DX x.bs
 case true=>refine Wk ?_;simp[bJ,hes,hI,hr]
 refine Wk ?_;cases hd:decide (0<(d.length:Int));simp only[hd,aZ hb,go_sem,seval];have:d=[]:=by cases d<;>simp_all<;>omega
 subst this;exact⟨h0,by simpa[hn,hr] using hI⟩;obtain⟨d',y,rfl⟩:∃d' y,d=d'++[y]:=by
  rcases mO d with rfl|⟨d',y,h⟩
  simp at hd;exact⟨d',y,by simpa using h⟩
 have hw:wr .i64 (((d'++[y]).length:Int)-1)=(d'.length:Int):=by simp only[dC,List.length_cons,List.length_nil,big]at *;rw[aU (by omega) (by omega)];omega
 have hy:(d'++[y]++x::r)[d'.length]?=some y:=by simp
 simp only[hd,h1,hw,hy,go_sem,seval];cases hl:Op.bytesLess y.bs x.bs;refine Wk ?_;have:nQ [] k.vars.es=false:=by rw[hes,hI];simp[hl]
 simp[bJ,this];simp only[aZ hb,go_sem,seval];exact⟨h0,by simpa[hn,hr,hl] using hI⟩
end
end
section
def gU(n:Int):List aP->Bool
 |[]=>true
 |s::r=>kE s n&&gU (n+1) r
def eO(fn:List aP)(n:Int):Bool:=decide (0<=n)&&decide (n<=20)&&decide ((fn.length:Int)<=60) && !decide (n+fn.length=0)&&gU n fn
def fZ(p:aC)(a b c d e f:Bool):Bool:=
 (a||decide (p.num=0))&&(b||decide (p.value=0))&&(c||decide (p.name.bs=[]))&&(d||decide ((p.at_.es.length:Int)=0))&&(e || !p.dyn&&decide (p.check=0))&&(f||decide ((p.fn.es.length:Int)=0))
def yR(p:aC)(aSe:Int):Bool:=
 fZ p false true false true true false&&decide (0<=p.value)&&decide (p.value<aSe)&&decide (0<=p.check) &&
  (if p.dyn then decide ((p.at_.es.length:Int)<=5)&&decide ((p.aSj.length:Int)=1) else decide ((p.at_.es.length:Int)<=6)&&decide ((p.aSj.length:Int)=0)&&decide (p.check=0))
section
variable{pg:Pg}
theorem c70(hf:pg.fs 70=some aDz)(h111:∀(s:aP) (n:Int),Ret pg 111 [s.av,.int .i64 n] (.bool (kE s n)))(nl cl:Bool)(fn:List aP)(hb:fn.length<=big)(n:Int) :
  Ret pg 70 [.sl nl (fn.map aP.av) cl,.int .i64 n] (.bool (eO fn n)):=by
 refine Ret.ofX hf ?_;unfold aDz;refine Wk ?_;cases h1:decide (n<0)
 case true=>
  simp only[h1,go_sem,seval];simp at h1;have:decide (0<=n)=false:=by simp;omega
  simp[eO,this]
 simp only[h1,go_sem,seval];cases h2:decide (20<n)
 case true=>
  simp only[h2,go_sem,seval];simp at h2;have:decide (n<=20)=false:=by simp;omega
  simp[eO,this]
 simp only[h2,go_sem,seval];cases h3:decide (60<(fn.length:Int))
 case true=>
  simp only[h3,go_sem,seval];simp at h3;have:decide ((fn.length:Int)<=60)=false:=by simp;omega
  simp[eO,this]
 simp only[eJ]at h1 h2;have hw:wr .i64 (n+fn.length)=n+fn.length:=by simp only[big]at hb;exact aU (by omega) (by omega)
 simp only[h3,hw,go_sem,seval];cases h4:decide (n+(fn.length:Int)=0)
 case true=>simp only[h4,go_sem,seval];simp[eO,h4]
 simp only[h4,go_sem,seval];have hspec:eO fn n=gU n fn:=by
  simp only[eJ]at h3;have e1:decide (0<=n)=true:=by simp;omega
  have e2:decide (n<=20)=true:=by simp;omega
  have e3:decide ((fn.length:Int)<=60)=true:=by simp;omega
  simp[eO,h4,e1,e2,e3]
 rw[hspec];refine fJ fn (λd e=>fP e (some 27) (.int .i64 d.length)) (λd r hp=>gU n fn=gU (n+d.length) r) rfl ?_ ?_ ?_;simp;intro hp hI;simp only[VO,VN,go_sem,seval];rw[hI];rfl;intro d x r hp hes hI;subst hes;have hw:wr .i64 (n+d.length)=n+d.length:=by simp only[big,dC,List.length_cons]at hb;exact aU (by omega) (by omega)
 simp only[VO,VN,go_sem,seval];rw[hw];refine aB (h111 x _) (Wk ?_);cases hx:kE x (n+d.length);refine Wk ?_;rw[hI];simp[gU,hx];simp only[aZ hb,go_sem,seval];rw[hI];simp[gU,hx,Int.add_assoc]
theorem aAU(hf:pg.fs 206=some o8)(p:aC):Ret pg 206 [p.av,.bool false,.bool true,.bool false,.bool true,.bool true,.bool false] (.bool (fZ p false true false true true false)):=by
 refine Ret.ofX hf ?_;unfold o8
 repeat' (first|simp only[*,go_sem,seval]|refine bB (λ_=>?_) (λ_=>?_)|refine bD (λ_=>?_) (λ_=>?_)|refine aY ?_)
 all_goals (simp_all [fZ])
theorem XS(hf:pg.fs 206=some o8)(p:aC):Ret pg 206 [p.av,.bool true,.bool false,.bool false,.bool false,.bool false,.bool false] (.bool (fZ p true false false false false false)):=by
 refine Ret.ofX hf ?_;unfold o8
 repeat' (first|simp only[*,go_sem,seval]|refine bB (λ_=>?_) (λ_=>?_)|refine bD (λ_=>?_) (λ_=>?_)|refine aY ?_)
 all_goals (simp_all [fZ])
theorem aEw(hf:pg.fs 206=some o8)(p:aC):Ret pg 206 [p.av,.bool false,.bool false,.bool false,.bool true,.bool false,.bool false] (.bool (fZ p false false false true false false)):=by
 refine Ret.ofX hf ?_;unfold o8
 repeat' (first|simp only[*,go_sem,seval]|refine bB (λ_=>?_) (λ_=>?_)|refine bD (λ_=>?_) (λ_=>?_)|refine aY ?_)
 all_goals (simp_all [fZ])
theorem aEv(hf:pg.fs 206=some o8)(p:aC):Ret pg 206 [p.av,.bool false,.bool false,.bool true,.bool true,.bool false,.bool true] (.bool (fZ p false false true true false true)):=by
 refine Ret.ofX hf ?_;unfold o8
 repeat' (first|simp only[*,go_sem,seval]|refine bB (λ_=>?_) (λ_=>?_)|refine bD (λ_=>?_) (λ_=>?_)|refine aY ?_)
 all_goals (simp_all [fZ])
theorem aAV(hf:pg.fs 206=some o8)(p:aC):Ret pg 206 [p.av,.bool false,.bool false,.bool false,.bool false,.bool false,.bool true] (.bool (fZ p false false false false false true)):=by
 refine Ret.ofX hf ?_;unfold o8
 repeat' (first|simp only[*,go_sem,seval]|refine bB (λ_=>?_) (λ_=>?_)|refine bD (λ_=>?_) (λ_=>?_)|refine aY ?_)
 all_goals (simp_all [fZ])
theorem aGR(hf:pg.fs 206=some o8)(p:aC):Ret pg 206 [p.av,.bool false,.bool false,.bool false,.bool false,.bool false,.bool false] (.bool (fZ p false false false false false false)):=by
 refine Ret.ofX hf ?_;unfold o8
 repeat' (first|simp only[*,go_sem,seval]|refine bB (λ_=>?_) (λ_=>?_)|refine bD (λ_=>?_) (λ_=>?_)|refine aY ?_)
 all_goals (simp_all [fZ])
theorem c207(hf:pg.fs 207=some J5)(h206:pg.fs 206=some o8)(p:aC)(hp:p.aSj.length<=big)(v:Int) :
  Ret pg 207 [p.av,.int .i64 v] (.bool (yR p v)):=by
 have h6:=aAU h206 p;rw[aC.avc]at h6;refine Ret.ofX hf ?_;unfold J5;clear h206
 repeat' (first|simp only[*,go_sem,seval]|refine bB (λ_=>?_) (λ_=>?_)|refine bD (λ_=>?_) (λ_=>?_)|(refine aB h6 ?_)|refine aY ?_)
 all_goals (clear h6)
 all_goals (simp_all [yR])
 all_goals (try omega)
end
end
section
mutual
theorem aC.ind'{P:aC->Prop}(h:∀p:aC,(∀q∈p.aSj,P q)->P p):∀p,P p
 |.mk op num value name at_ dyn check fn knl aSj kcl=>h _ (aC.inds h aSj)
theorem aC.inds{P:aC->Prop}(h:∀p:aC,(∀q∈p.aSj,P q)->P p):∀l:List aC,∀q∈l,P q
 |[]=>by simp
 |x::r=>List.forall_mem_cons.2 ⟨aC.ind' h x,aC.inds h r⟩
end
mutual
def tX:aC->Int
 |.mk _ _ _ _ _ _ _ _ _ aSj _=>qK 1 aSj
def qK(a:Int):List aC->Int
 |[]=>a
 |p::r=>qK (wr .i64 (a+tX p)) r
end
theorem I1(p:aC):tX p=qK 1 p.aSj:=by cases p;rw[tX];rfl
theorem vX:∀(d:List aC)(a:Int)(x:aC),qK a (d++[x])=wr .i64 (qK a d+tX x)
 |[],a,x=>by simp[qK]
 |y::d,a,x=>by simp only[List.cons_append,qK];exact vX d _ x
section
variable{pg:Pg}
theorem c146(hf:pg.fs 146=some KD):∀p:aC,p.ok->Ret pg 146 [p.av] (.int .i64 (tX p)):=by refine aC.ind' λp ih hp=>?_;obtain⟨hb,hk⟩:=(aC.ok_iff p).1 hp;refine Ret.ofX hf ?_;unfold KD;refine Wk ?_;refine fJ p.aSj (λd e=>fP (fP e (some 9) (.int .i64 d.length)) (some 3) (.int .i64 (qK 1 d))) (λd r hp=>True) (by simp only[qK];rfl) trivial ?_ ?_;rintro hp -;simp only[NV,NS,go_sem,seval];exact(I1 p).symm;rintro d x r hp hes -;have hx:=ih x (by rw[hes];simp) (hk x (by rw[hes];simp));rw[hes]at hb;rw[hes];rw[aC.avc]at hx;simp only[NV,NS,go_sem,seval];refine aB (hx) ?_;simp only[aZ hb,vX,go_sem,seval]
theorem c209(hf:pg.fs 209=some G6)(n:Nat)(h0:0<n)(hb:n<=1073741824):bQ pg 209 [.sl true [] true,.int .i64 n] (pA 1 false []):=by
 refine bQ.ofX hf ?_;have e1:decide ((n:Int)<0)=false:=by simp
 have e2:decide ((0:Int)<n)=true:=by simp;omega
 have e3:wr .i64 (n:Int)=n:=aU (by omega) (by omega);have e4:wr .i64 (0:Int)=0:=rfl;unfold G6;simp only[e1,kX,j1,Int.sub_zero,Int.sub_self,e3,e4,e2,Option.getD_none,go_sem,seval]
 have hz:XO pg 0 (.apz 1 false 16 [.str []]) 1 [] [.sl true [] true,.int .i64 (n:Int)]=λQ _=>Q (.rf 1 0 0 n n) (.pat [1] [⟨1,0,.blk (List.replicate n [.str []]).flatten 1 false false false⟩]):=by
  funext Q t;have hn:n≠0:=by omega
  show WO pg 0 _ 1 [] _ Q=_;rw[gS rfl];have ha:cX [AV.str []]=true:=rfl;have hb':(n:Int)<=1073741824:=by omega
  simp[TW,aHs,hb,hb',ha,nJ,hn,TS,cK,Hp.next,YT]
 rw[hz];simp only[kX,j1,Option.getD_none,Option.getD_some,go_sem,seval];simp only[XV,TS,Option.getD_none,Option.getD_some,Option.isNone_none,Bool.or_true,Int.toNat_zero,Nat.sub_zero];rw[if_pos (by simp)];refine Wk ?_;simp only[pK,List.drop_zero,conv,depth,fE,cW,bM,go_sem,seval];exact⟨_,by simp,.inr rfl⟩
theorem El.strs(l:List Str):∀x∈l.map Str.av,El 1 false x:=by intro x hx;simp only[List.mem_map]at hx;obtain⟨y,_,rfl⟩:=hx;exact⟨rfl,rfl,rfl⟩
theorem c184(hf:pg.fs 184=some J7)(h209:pg.fs 209=some G6)(nl cl:Bool)(vars:List Str)(s:Str)(hb:vars.length<=big) :
  bQ pg 184 [.sl false [.sl nl (vars.map Str.av) cl,.sl false [.str s.bs] true] true] (pA 1 false ((vars++[s]).map Str.av)):=by
 refine bQ.ofX hf ?_;simp only[big]at hb;have e1:wr .i64 (vars.length:Int)=vars.length:=aU (by omega) (by omega);have e2:wr .i64 ((vars.length:Int)+1)=((vars.length+1:Nat):Int):=by rw[aU (by omega) (by omega)];omega
 have e3:decide ((vars.length:Int)<0)=false:=by simp
 have e4:decide ((((vars.length+1:Nat):Int))<0)=false:=by simp;omega
 have e5:wr .i64 1=1:=rfl;have e6:wr .i64 2=2:=rfl;have e7:((1:Int).toNat)=1:=rfl;have e8:(((2:Nat):Int))=2:=rfl;have e13:(((1:Nat):Int))=1:=rfl;have e9:decide ((0:Int)<2)=true:=rfl;have e10:decide ((1:Int)<2)=true:=rfl;have e11:decide ((2:Int)<2)=false:=rfl;have e12:((0:Int)<=1)=True:=by simp
 unfold J7;refine Wk ?_;rw[pW];simp only[EJ,EI,e1,e3,Int.zero_add,e5,e8,e9,go_sem,seval];rw[pW];simp only[EJ,EI,e13,e2,e4,e5,e6,e7,e8,e10,e12,Int.reduceAdd,go_sem,seval];rw[pW];simp only[EJ,EI,e8,e11,go_sem,seval];refine CL (c209 h209 (vars.length+1) (by omega) (by omega)) (by simp only[go_sem,seval]) (by simp) ?_;intro v rd pa ho hk hpa;refine Wk ?_;rw[pW];simp only[AX,AW,e8,e9,go_sem,seval];have hcat:∀v':AV,∀hp:Hp,Own hp 5 1 false v' (vars.map Str.av++[.str s.bs])->∃r,conv hp v'=some r/\pA 1 false ((vars++[s]).map Str.av) r:=by intro v' hp ho';have:=ho'.conv (by have:=El.strs (vars++[s]);simpa[Str.av] using this);simpa[Str.av] using this
 have hfin:∀(v':AV)(hp:Hp),(Own hp 1 1 false v' (vars.map Str.av)/\vars=[])\/Own hp 5 1 false v' (vars.map Str.av) ->
   ∀(Q:AV->Eff->Prop)(t:Tok Q),(∀v2 rd pa,Own (Eff.app hp (.pat rd pa)) 5 1 false v2 (vars.map Str.av++[.str s.bs])->Q v2 (.pat rd pa))->XO pg 0 (.app 1 false 16) 5 hp [v',.sl false [.str s.bs] true] Q t:=by
  intro v' hp hor Q t hq;have hs:∀x∈[AV.str s.bs],El 1 false x:=by intro x hx;simp at hx;subst hx;exact⟨rfl,rfl,rfl⟩
  rcases hor with ⟨ho',hv⟩|ho';exact OE (kb:=0) (s:=5) ho' (by decide) (El.strs vars) hs (by simp;omega) (by omega) (λh=>by simp at h) (λ_ v2 rd pa h _=>hq v2 rd pa h);exact gR (kb:=0) (s:=5) ho' (El.strs vars) hs (by simp;omega) (by omega) (λv2 rd pa h _ _=>hq v2 rd pa h)
 have hrest:∀(v':AV)(hp:Hp),(Own hp 1 1 false v' (vars.map Str.av)/\vars=[])\/Own hp 5 1 false v' (vars.map Str.av)->∀env:List AV,
   clear AW env=Y8 v' (.sl false [.sl nl (vars.map Str.av) cl,.sl false [.str s.bs] true] true) (.int .i64 2) (.int .i64 1) ->
   XX pg 0 (.loop AX AW) ⟨env,hp⟩ (qU 2 (oT (λst'=>XX pg 0 ((C.reg [⟨some 35,.mov,[.t 6],none,0,0⟩,⟨some 2,.mov,[.t 35],none,0,0⟩] false).seq C.ret) st' (aCX [Sum.inl 2] (pA 1 false ((vars++[s]).map Str.av))) ⟨⟩) (aCX [Sum.inl 2] (pA 1 false ((vars++[s]).map Str.av))))) ⟨⟩:=by
  intro v' hp hor env henv;rw[pW,henv];simp only[AX,Y8,e8,e10,e7,e12,go_sem,seval];refine hfin v' hp hor _ _ ?_;intro v2 rd pa ho2;simp only[e6,e5,go_sem,seval];rw[pW];simp only[AX,AW,e8,e11,Int.reduceAdd,e6,go_sem,seval];exact hcat _ _ ho2
 refine OE (kb:=0) (s:=5) (k1:=1) ho (by decide) (by simp) (El.strs vars) (by simp;omega) (by omega) ?_ ?_;intro hx rd;have hv:vars=[]:=by simpa using hx
 simp only[e5,go_sem,seval];exact hrest v _ (.inl ⟨by rw[hv];exact ho,hv⟩) _ rfl;intro _ v' rd' pa' ho' _;simp only[e5,go_sem,seval];exact hrest v' _ (.inr (by simpa using ho')) _ rfl
end
end
section
def gV(p:aC)(vars:List Str)(aSe:Int):Bool:=
 if p.op.bs=[99,111,110,115,116] then fZ p true false false false false false&&decide ((p.aSj.length:Int)=0)&&oN p.num
 else if p.op.bs=[108,105,110,101,97,114] then fZ p false false false true false false&&decide ((p.aSj.length:Int)=0)&&decide ((p.at_.es.length:Int)=1)
 else if p.op.bs=[114,101,97,100] then yR p aSe
 else if p.op.bs=[105,102] then fZ p false false false true false false&&decide ((p.aSj.length:Int)=2)&&decide ((p.at_.es.length:Int)=1)
 else if p.op.bs=[114,101,100,117,99,101] then fZ p false false true true false true&&decide ((p.aSj.length:Int)=2)&&decide ((p.at_.es.length:Int)=1)&&iQ p.name.bs && !mD vars p.name.bs&&eO p.fn.es 2
 else if p.op.bs=[99,111,100,101] then fZ p false false false false false true&&eO p.fn.es p.aSj.length
 else match kK p.op.bs with
  |none=>false
  |some q=>fZ p false false false false false false&&decide ((p.aSj.length:Int)=(q.params.length:Int))
section
variable{pg:Pg}
set_option maxHeartbeats 1000000 in
theorem c182(hname:∀s:Str,Ret pg 57 [.str s.bs] (.bool (iQ s.bs)))(hf:pg.fs 182=some RS)(h206:pg.fs 206=some o8)(h148:pg.fs 148=some A2)(h207:pg.fs 207=some J5)(h98:pg.fs 98=some U4)(h138:pg.fs 138=some DL)
  (h70:∀(nl cl:Bool)(fn:List aP),fn.length<=big->∀n:Int,Ret pg 70 [.sl nl (fn.map aP.av) cl,.int .i64 n] (.bool (eO fn n))) (h140:∀op,bQ pg 140 [.str op] (kV op))
  (p:aC) (hk:p.aSj.length<=big) (nl cl:Bool) (vars:List Str) (hb:vars.length<=big) (v:Int):Ret pg 182 [p.av,.sl nl (vars.map Str.av) cl,.int .i64 v] (.bool (gV p vars v)):=by
 have k1:=XS h206 p;have k2:=aEw h206 p;have k3:=aEv h206 p;have k4:=aAV h206 p;have k5:=aGR h206 p;have k6:=c207 h207 h206 p hk v;have k7:=aIt h148 p.num;have k8:=hname p.name;have k9:Ret pg 98 [.sl nl (vars.map Str.av) cl,.str p.name.bs] (.bool (mD vars p.name.bs)):=c98 h98 h138 nl cl vars hb p.name.bs;have k10:=h70 p.fn.nl p.fn.cl p.fn.es p.fn.ok 2;have k11:=h70 p.fn.nl p.fn.cl p.fn.es p.fn.ok p.aSj.length;rw[aC.avc]at k1 k2 k3 k4 k5 k6;refine Ret.ofX hf ?_;clear h206 h148 h207 h98 h138 h70 hname;unfold RS;refine Wk ?_;cases o1:decide (p.op.bs=[99,111,110,115,116])
 case true=>
  clear h140
  repeat' (first|simp only[*,go_sem,seval]|refine bB (λ_=>?_) (λ_=>?_)|refine bD (λ_=>?_) (λ_=>?_)|(refine aB k1 ?_)|(refine aB k7 ?_)|refine aY ?_)
  all_goals (clear k1 k2 k3 k4 k5 k6 k7 k8 k9 k10 k11)
  all_goals (simp_all [gV])
 refine Wk ?_;cases o2:decide (p.op.bs=[108,105,110,101,97,114])
 case true=>
  clear h140
  repeat' (first|simp only[*,go_sem,seval]|refine bB (λ_=>?_) (λ_=>?_)|refine bD (λ_=>?_) (λ_=>?_)|(refine aB k2 ?_)|refine aY ?_)
  all_goals (clear k1 k2 k3 k4 k5 k6 k7 k8 k9 k10 k11)
  all_goals (simp_all [gV])
 refine Wk ?_;cases o3:decide (p.op.bs=[114,101,97,100])
 case true=>
  clear h140
  repeat' (first|simp only[*,go_sem,seval]|refine bB (λ_=>?_) (λ_=>?_)|refine bD (λ_=>?_) (λ_=>?_)|(refine aB k6 ?_)|refine aY ?_)
  all_goals (clear k1 k2 k3 k4 k5 k6 k7 k8 k9 k10 k11)
  all_goals (simp_all [gV])
 refine Wk ?_;cases o4:decide (p.op.bs=[105,102])
 case true=>
  clear h140
  repeat' (first|simp only[*,go_sem,seval]|refine bB (λ_=>?_) (λ_=>?_)|refine bD (λ_=>?_) (λ_=>?_)|(refine aB k2 ?_)|refine aY ?_)
  all_goals (clear k1 k2 k3 k4 k5 k6 k7 k8 k9 k10 k11)
  all_goals (simp_all [gV])
 refine Wk ?_;cases o5:decide (p.op.bs=[114,101,100,117,99,101])
 case true=>
  clear h140
  repeat' (first|simp only[*,go_sem,seval]|refine bB (λ_=>?_) (λ_=>?_)|refine bD (λ_=>?_) (λ_=>?_)|(refine aB k3 ?_)|(refine aB k8 ?_)|(refine aB k9 ?_)|(refine aB k10 ?_)|refine aY ?_)
  all_goals (clear k1 k2 k3 k4 k5 k6 k7 k8 k9 k10 k11)
  all_goals (simp_all [gV])
 refine Wk ?_;cases o6:decide (p.op.bs=[99,111,100,101])
 case true=>
  clear h140
  repeat' (first|simp only[*,go_sem,seval]|refine bB (λ_=>?_) (λ_=>?_)|refine bD (λ_=>?_) (λ_=>?_)|(refine aB k4 ?_)|(refine aB k11 ?_)|refine aY ?_)
  all_goals (clear k1 k2 k3 k4 k5 k6 k7 k8 k9 k10 k11)
  all_goals (simp_all [gV])
 obtain⟨r,hr,hP⟩:=h140 p.op.bs;clear h140
 have hspec:gV p vars v=match kK p.op.bs with
  |none=>false
  |some q=>fZ p false false false false false false&&decide ((p.aSj.length:Int)=(q.params.length:Int)):=by
  simp at o1 o2 o3 o4 o5 o6;simp[gV,o1,o2,o3,o4,o5,o6]
 generalize gV p vars v=res at hspec ⊢;obtain⟨nl',cl',ps,rs,ok,rfl,hres⟩:∃nl cl,∃ps:List (List UInt8),∃rs ok,r = .tup [.sl nl (ps.map .str) cl,.str rs,.bool ok]/\res=(ok&&fZ p false false false false false false&&decide ((p.aSj.length:Int)=(ps.length:Int))):=by
  unfold kV at hP;cases hp:kK p.op.bs with
  |none=>rw[hp]at hP hspec;exact⟨_,_,[],_,_,hP,by simp[hspec]⟩
  |some q=>rw[hp]at hP hspec;obtain⟨nl,cl,hP⟩:=hP;exact⟨_,_,q.params,_,_,hP,by simp[hspec]⟩
 clear hP hspec;have htr:treeL (ps.map AV.str)=true:=cH (f:=AV.str) (λ_=>rfl) ps
 repeat' (first|simp only[*,go_sem,seval]|refine bB (λ_=>?_) (λ_=>?_)|refine bD (λ_=>?_) (λ_=>?_)|(refine aB hr ?_)|(refine aB k5 ?_)|refine aY ?_)
 all_goals (clear k1 k2 k3 k4 k5 k6 k7 k8 k9 k10 k11 hr)
 all_goals (simp_all)
end
end
end Go.Tev
