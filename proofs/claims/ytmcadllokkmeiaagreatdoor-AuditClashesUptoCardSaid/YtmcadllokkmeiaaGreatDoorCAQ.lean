import Derived.Test.YtmcadllokkmeiaaGreatDoorCAP
import Derived.Test.YtmcadllokkmeiaaGreatDoorCAH
import Derived.Test.YtmcadllokkmeiaaGreatDoorCAM
set_option linter.all false
namespace Go.Tev
section
structure El(esz:Nat)(ag:Bool)(v:AV):Prop where
 fits:v.fits esz ag=true
 one:cH v.cells=true
 tree:v.tree=true
theorem El.len{esz:Nat}{ag:Bool}{v:AV}(h:El esz ag v):v.cells.length=esz:=by have:=h.fits;cases v<;>simp[AV.fits,AV.cells]at this ⊢ <;> first|exact this.2|exact this.2.symm|omega
theorem El.isAgg{esz:Nat}{ag:Bool}{v:AV}(h:El esz ag v):v.isAgg=ag:=by have:=h.fits;cases v<;>cases ag<;>simp[AV.fits,AV.isAgg]at this ⊢
theorem dQ{esz:Nat}{ag:Bool}:∀{es:List AV},(∀x∈es,El esz ag x)->∃cs,bV esz ag es=some cs/\cs.length=es.length*esz/\cH cs=true/\∀tl,nZ esz ag es.length (cs++tl)=some es
 |[],_=>⟨[],rfl,by simp,rfl,λ_=>rfl⟩
 |x::r,h=>by
  obtain⟨cs,h1,h2,h3,h4⟩:=dQ (λy hy=>h y (dH _ hy));have hx:=h x (by simp);have hl:=hx.len;refine⟨x.cells++cs,?_,?_,?_,?_⟩;simp[bV,hx.fits,hx.one,h1];simp[h2,hl,Nat.add_mul];omega;have happ:∀(p q:List AV),cH p=true->cH q=true->cH (p++q)=true:=by
   intro p q hp hq
   induction p with
   |nil=>exact hq
   |cons y s ih=>simp only[cH,aG,List.cons_append]at hp ⊢;exact⟨hp.1,ih hp.2⟩
  exact happ _ _ hx.one h3;intro tl;have hag:=hx.isAgg;cases ag with
  |true=>
   obtain⟨c,rfl⟩:∃c,x = .agg c:=by cases x<;>simp[AV.isAgg]at hag;exact⟨_,rfl⟩
   simp only[AV.cells]at hl;simp only[List.length_cons,nZ,AV.cells,if_true,List.append_assoc];rw[if_neg (by simp[hl])];rw[<-hl];simp only[List.drop_left,List.take_left];rw[hl,h4 tl];rfl
  |false=>
   have hc:x.cells=[x]:=by cases x<;>simp[AV.isAgg]at hag<;>rfl
   have he:esz=1:=by rw[hc]at hl;simpa using hl.symm
   subst he;simp only[List.length_cons,nZ,hc,Bool.false_eq_true,if_false,List.cons_append,List.nil_append,hag,h4 tl];rfl
theorem LT{h:Hp}{esz:Nat}{ag:Bool}{es:List AV}(he:∀x∈es,El esz ag x):dA (snap depth h) es=some (es,[]):=by
 refine eZ 63 h ?_
 induction es with
 |nil=>rfl
 |cons x r ih=>simp only[treeL,aG];exact⟨(he x (by simp)).tree,ih (λy hy=>he y (dH _ hy))⟩
def Own(h:Hp)(k0 esz:Nat)(ag:Bool)(v:AV)(es:List AV):Prop:=
 (es=[]/\∃nl cl,v = .sl nl [] cl/\(nl||cl)=true) \/
 (∃e cs,v = .rf k0 e 0 es.length es.length/\h.get k0=some (e,.blk cs esz ag false false)/\bV esz ag es=some cs)
theorem Own.mono{h h':Hp}{k0 esz:Nat}{ag:Bool}{v:AV}{es:List AV}(o:Own h k0 esz ag v es)(hh:h'.get k0=h.get k0):Own h' k0 esz ag v es:=by
 rcases o with o|⟨e,cs,h2,h3,h4⟩
 exact .inl o;exact .inr ⟨e,cs,h2,by rw[hh];exact h3,h4⟩
theorem Own.nil(h:Hp)(k0 esz:Nat)(ag:Bool)(nl cl:Bool)(hc:(nl||cl)=true):Own h k0 esz ag (.sl nl [] cl) []:=.inl ⟨rfl,nl,cl,rfl,hc⟩
def nP(esz:Nat)(ag:Bool)(es:List AV)(r:AV):Prop:=
 (es=[]/\∃nl cl,r = .sl nl [] cl/\(nl||cl)=true)\/r = .os es esz ag
theorem Own.conv{h:Hp}{k0 esz:Nat}{ag:Bool}{v:AV}{es:List AV}(o:Own h k0 esz ag v es)(he:∀x∈es,El esz ag x):∃r,Tev.conv h v=some r/\nP esz ag es r:=by
 rcases o with ⟨rfl,nl,cl,rfl,hc⟩|⟨e,cs,rfl,hg,hu⟩
 exact⟨.sl nl [] cl,z8 rfl,.inl ⟨rfl,nl,cl,rfl,hc⟩⟩;obtain⟨cs',h1,h2,h3,h4⟩:=dQ he;rw[hu]at h1;cases h1;have h5:=h4 [];rw[List.append_nil]at h5;refine⟨.os es esz ag,?_,.inr rfl⟩;simp[Tev.conv,hg,h5,LT he]
theorem jU{esz:Nat}{ag:Bool}:∀{a b:List AV}{c d:List AV},bV esz ag a=some c->bV esz ag b=some d->bV esz ag (a++b)=some (c++d)
 |[],b,c,d,h1,h2=>by cases h1;exact h2
 |x::r,b,c,d,h1,h2=>by simp only[bV]at h1;split at h1;rename_i hc;simp only[rN]at h1;obtain⟨c',h3,rfl⟩:=h1;simp[bV,hc,jU h3 h2];cases h1
section
variable{pg:Pg}{kb:Nat}
theorem eF{esz bytes s:Nat}{ag:Bool}{h:Hp}{v:AV}{es xs:List AV}{nl cl:Bool}{Q:AV->Eff->Prop}{t:Tok Q}(o:Own h (kb+s) esz ag v es)(he:∀x∈es,El esz ag x)(hx:∀x∈xs,El esz ag x)
  (hl:es.length+xs.length<=1073741824) (hb:bytes<=65536)
  (q:∀v' rd pa,Own (Eff.app h (.pat rd pa)) (kb+s) esz ag v' (es++xs)->(∀k,k≠kb+s->(Eff.app h (.pat rd pa)).get k=h.get k)->(∀x∈pa,x.k=kb+s)->Q v' (.pat rd pa)) :
  XO pg kb (.app esz ag bytes) s h [v,.sl nl xs cl] Q t:=by
 rw[iQ];obtain⟨ds,d1,d2,d3,_⟩:=dQ hx;simp only[nY,bB,d1,Option.map_some];by_cases hxs:xs=[]
 subst hxs;cases d1;rcases o with ⟨rfl,nl',cl',rfl,hc⟩|⟨e,cs,rfl,hg,hu⟩
 simp only[mD,List.length_nil,if_true];exact q _ _ _ (.inl ⟨rfl,nl',cl',rfl,hc⟩) (λ_ _=>rfl) (by simp);obtain⟨cs',c1,c2,_,_⟩:=dQ he;rw[hu]at c1;cases c1;simp only[mD,hg,List.length_nil,if_true,true_and,Nat.zero_add];rw[if_pos (by omega)];exact q _ _ _ (.inr ⟨e,cs,by simp,by simpa[Eff.app,cM] using hg,by simpa using hu⟩) (λ_ _=>rfl) (by simp);have hn:xs.length≠0:=by simpa using hxs
 rcases o with ⟨rfl,nl',cl',rfl,hc⟩|⟨e,cs,rfl,hg,hu⟩
 simp only[mD,hn,if_false,hc,List.length_nil,Nat.zero_add,Bool.true_and];have hlx:xs.length<=1073741824:=by simpa using hl
 simp only[hlx,hb,decide_true,Bool.and_self,if_true,bV,List.nil_append];refine q _ _ _ (.inr ⟨_,ds,rfl,?_,by simpa using d1⟩) ?_ (by simp);rw[mC,aD,if_pos rfl];intro k hk;rw[mC,aD,if_neg (Ne.symm hk)];obtain⟨cs',c1,c2,_,_⟩:=dQ he;rw[hu]at c1;cases c1;have h1:¬(es.length+xs.length<=es.length):=by omega
 simp only[mD,hg,hn,if_false,true_and,Nat.zero_add];rw[if_pos (by omega)];simp only[h1,if_false,hl,hb,decide_true,Bool.true_and,beq_self_eq_true,Bool.not_true,Bool.and_false,Bool.false_eq_true,Bool.not_false,if_true];refine q _ _ _ (.inr ⟨e+1,cs++ds,by simp,?_,jU hu d1⟩) ?_ (by simp);rw[mC,aD,if_pos rfl];simp[<-c2];intro k hk;rw[mC,aD,if_neg (Ne.symm hk)]
theorem LF{esz bytes s k1:Nat}{ag:Bool}{h:Hp}{v:AV}{es xs:List AV}{nl cl:Bool}{Q:AV->Eff->Prop}{t:Tok Q}(o:Own h k1 esz ag v es)(hk1:k1≠kb+s)(he:∀x∈es,El esz ag x)(hx:∀x∈xs,El esz ag x)
  (hl:es.length+xs.length<=1073741824) (hb:bytes<=65536)
  (q1:xs=[]->∀rd,Q v (.pat rd []))
  (q2:xs≠[]->∀v' rd pa,Own (Eff.app h (.pat rd pa)) (kb+s) esz ag v' (es++xs)->(∀k,k≠kb+s->k≠k1->(Eff.app h (.pat rd pa)).get k=h.get k)->Q v' (.pat rd pa)) :
  XO pg kb (.app esz ag bytes) s h [v,.sl nl xs cl] Q t:=by
 rw[iQ];obtain⟨ds,d1,d2,d3,_⟩:=dQ hx;simp only[nY,bB,d1,Option.map_some];by_cases hxs:xs=[]
 subst hxs;cases d1;rcases o with ⟨rfl,nl',cl',rfl,hc⟩|⟨e,cs,rfl,hg,hu⟩
 simp only[mD,List.length_nil,if_true];exact q1 rfl _;obtain⟨cs',c1,c2,_,_⟩:=dQ he;rw[hu]at c1;cases c1;simp only[mD,hg,List.length_nil,if_true,true_and,Nat.zero_add];rw[if_pos (by omega)];exact q1 rfl _;have hn:xs.length≠0:=by simpa using hxs
 rcases o with ⟨rfl,nl',cl',rfl,hc⟩|⟨e,cs,rfl,hg,hu⟩
 simp only[mD,hn,if_false,hc,List.length_nil,Nat.zero_add,Bool.true_and];have hlx:xs.length<=1073741824:=by simpa using hl
 simp only[hlx,hb,decide_true,Bool.and_self,if_true,bV,List.nil_append];refine q2 hxs _ _ _ (.inr ⟨_,ds,rfl,?_,by simpa using d1⟩) ?_;rw[mC,aD,if_pos rfl];intro k hk _;rw[mC,aD,if_neg (Ne.symm hk)];obtain⟨cs',c1,c2,_,_⟩:=dQ he;rw[hu]at c1;cases c1;have h1:¬(es.length+xs.length<=es.length):=by omega
 have h2:(k1==kb+s)=false:=by simpa using hk1
 simp only[mD,hg,hn,if_false,true_and,Nat.zero_add];rw[if_pos (by omega)];simp only[h1,if_false,hl,hb,decide_true,Bool.true_and,h2,Bool.not_false,if_true,Bool.false_eq_true];refine q2 hxs _ _ _ (.inr ⟨h.next (kb+s),cs++ds,by simp,?_,jU hu d1⟩) ?_;rw[yV,aD,if_pos rfl];simp[<-c2];intro k hk hk2;rw[yV,aD,if_neg (Ne.symm hk),aD,if_neg (Ne.symm hk2)]
theorem lQ{f s esz:Nat}{ag:Bool}{h:Hp}{vs es:List AV}{Q:AV->Eff->Prop}{t:Tok Q}(hr:bE pg f vs (nP esz ag es))(hm:treeL vs=true)
  (q:∀nl cl,(nl=true->es=[])->Q (.sl nl es cl) (.pat [kb+s] [])):XO pg kb (.call f false false) s h vs Q t:=by
 obtain⟨r,hr,⟨rfl,nl,cl,rfl,hc⟩|rfl⟩:=hr;exact bT hr hm rfl (q nl cl (λ_=>rfl));refine cK hr (eZ 63 h hm) (v:=.sl false es false) (pa:=[]) rfl ?_;have:(if (AV.os es esz ag).flat then ([]:List Ent) else cZ h [])++[]=[]:=by split<;>rfl
 rw[this];exact q false false (λh=>by cases h)
theorem AO{f s esz:Nat}{ag:Bool}{h:Hp}{vs es:List AV}{Q:AV->Eff->Prop}{t:Tok Q}(hr:bE pg f vs (nP esz ag es))(hm:treeL vs=true)(he:∀x∈es,El esz ag x)
  (q:∀v rd pa,Own (Eff.app h (.pat rd pa)) (kb+s) esz ag v es->(∀k,k≠kb+s->(Eff.app h (.pat rd pa)).get k=h.get k)->(∀x∈pa,x.k=kb+s)->Q v (.pat rd pa)):XO pg kb (.call f true false) s h vs Q t:=by
 obtain⟨r,hr,⟨rfl,nl,cl,rfl,hc⟩|rfl⟩:=hr;exact bT hr hm rfl (q _ _ _ (Own.nil _ _ _ _ _ _ hc) (λ_ _=>rfl) (by simp));obtain⟨cs,c1,c2,_,_⟩:=dQ he;refine cK hr (eZ 63 h hm) (v:=.rf (kb+s) (h.next (kb+s)) 0 es.length es.length) (pa:=[⟨kb+s,h.next (kb+s),.blk cs esz ag false false⟩]) (by simp[gO,c1]) ?_;have:(if (AV.os es esz ag).flat then ([]:List Ent) else cZ h [])=[]:=by split<;>rfl
 rw[this,List.nil_append];refine q _ _ _ (.inr ⟨_,cs,rfl,?_,c1⟩) ?_ (by simp);rw[mC,aD,if_pos rfl];intro k hk;rw[mC,aD,if_neg (Ne.symm hk)]
theorem VD{f s esz:Nat}{ag:Bool}{h:Hp}{vs es:List AV}{Q:AV->Eff->Prop}{t:Tok Q}(hr:bE pg f vs (nP esz ag es))(hm:treeL vs=true)(he:∀x∈es,El esz ag x)
  (q1:es=[]->∀nl cl,(nl||cl)=true->Q (.sl nl [] cl) (.pat [kb+s] []))
  (q2:∀cs,bV esz ag es=some cs->nZ esz ag es.length cs=some es->Q (.rf (kb+s) (h.next (kb+s)) 0 es.length es.length) (.pat [kb+s] [⟨kb+s,h.next (kb+s),.blk cs esz ag false false⟩])):XO pg kb (.call f true false) s h vs Q t:=by
 obtain⟨r,hr,⟨rfl,nl,cl,rfl,hc⟩|rfl⟩:=hr;exact bT hr hm rfl (q1 rfl nl cl hc);obtain⟨cs,c1,c2,_,c4⟩:=dQ he;refine cK hr (eZ 63 h hm) (v:=.rf (kb+s) (h.next (kb+s)) 0 es.length es.length) (pa:=[⟨kb+s,h.next (kb+s),.blk cs esz ag false false⟩]) (by simp[gO,c1]) ?_;have:(if (AV.os es esz ag).flat then ([]:List Ent) else cZ h [])=[]:=by split<;>rfl
 rw[this,List.nil_append];exact q2 cs c1 (by simpa using c4 [])
end
end
section
def bL(c:UInt8):Bool:=decide (48<=c.toNat)&&decide (c.toNat<=57)
def gK(c:UInt8):Bool:=decide (97<=c.toNat)&&decide (c.toNat<=122)
def gR(s:List UInt8):Bool:=
 match s with
 |[]=>false
 | c::t=>decide (s.length<=30)&&(if c=95 then decide (2<=s.length)&&decide (s.length<=10) && !decide (t.head?=some 48)&&t.all bL else gK c&&t.all (λx=>gK x||bL x))
def gL(s:List UInt8):Bool:=
 match s with
 |[]=>false
 |c::t=>decide (s.length<=30)&&(decide (65<=c.toNat)&&decide (c.toNat<=90))&&t.all bL
def t8(i:Nat):List UInt8:=[105,UInt8.ofNat (48+i)]
def nT(n:Int):Bool:=decide (-1000000<=n)&&decide (n<=1000000)
def pR(p:List cL):List cL->Bool
 |[]=>true
 |x::r=>gR x.v.bs && !decide (x.c=0)&&nT x.c&&(match p.getLast? with|none=>true|some q=>Op.bytesLess q.v.bs x.v.bs)&&pR (p++[x]) r
def fE(l:Lin):Bool:=pR [] l.ts.es&&nT l.c&&decide ((l.ts.es.length:Int)<=12)
section
variable{pg:Pg}
theorem c89(hf:pg.fs 89=some W4)(n:Int):Ret pg 89 [.int .i64 n] (.bool (nT n)):=by
 refine Ret.ofX hf ?_;unfold W4
 repeat' (first|simp only[*,go_sem,seval]|refine aR (λ_=>?_) (λ_=>?_)|refine aU (λ_=>?_) (λ_=>?_)|refine aQ ?_)
 all_goals simp[nT, *]
theorem c126(hf:pg.fs 126=some BO)(s p:List UInt8):Ret pg 126 [.str s,.str p] (.bool (decide (p.length<=s.length)&&decide (s.take p.length=p))):=by
 refine Ret.ofX hf ?_;unfold BO;refine Wk ?_;cases h:decide (p.length<=s.length);have h':decide ((p.length:Int)<=s.length)=false:=by simp at h ⊢;omega
 simp only[h',go_sem,seval];have h':decide ((p.length:Int)<=s.length)=true:=by simp at h ⊢;omega
 simp only[h',go_sem,seval];have h2:(0:Int)<=p.length/\(p.length:Int)<=s.length:=by simp at h;omega
 simp[iZ,h2,val,XV,P4];simp only[h',h2,go_sem,seval]
theorem c91(hf:pg.fs 91=some RC)(h126:pg.fs 126=some BO)(s p:List UInt8):Ret pg 91 [.str s,.str p] (.bool (decide (p.length<=s.length)&&decide (s.take p.length=p))):=by refine Ret.ofX hf ?_;unfold RC;refine Wk ?_;refine aB (c126 h126 s p) ?_;simp only[go_sem,seval]
theorem c51(hf:pg.fs 51=some aBf)(h89:pg.fs 89=some W4)(h57:∀s:Str,Ret pg 57 [.str s.bs] (.bool (gR s.bs)))(l:Lin):Ret pg 51 [l.av] (.bool (fE l)):=by
 refine Ret.ofX hf ?_;unfold aBf;refine Wk ?_
 refine aK l.ts.es (λd r env hp=>hp.get 1=some (0,.blk [.int .i64 l.c,.sl l.ts.nl (l.ts.es.map cL.av) l.ts.cl] 2 true true false) /\
  env=R6 (.pt 1 0 0) (.sl l.ts.nl (l.ts.es.map cL.av) l.ts.cl) (.int .i64 l.ts.es.length) (.int .i64 d.length)/\fE l=(pR d r&&nT l.c&&decide ((l.ts.es.length:Int)<=12))) ?_ ?_ ?_
 exact⟨rfl,rfl,rfl⟩;rintro env hp ⟨h1,rfl,hq⟩;unfold R5 R6;simp only[Int.lt_irrefl,h1,go_sem,seval];refine aB (c89 h89 _) ?_;simp only[h1,go_sem,seval];simp only[pR]at hq;cases h9:nT l.c;refine Wk ?_;simp[hq,h9];simp only[h1,go_sem,seval];simp[hq,h9];rintro d x r env hp hes ⟨h1,rfl,hq⟩;have hb:=l.ts.ok;rw[hes]at hb h1 hq ⊢;unfold R5 R6;refine Wk ?_;refine aB (h57 x.v) ?_;simp only[pR]at hq;refine Wk ?_;cases hn:gR x.v.bs;refine Wk ?_;refine aQ ?_;simp[hq,hn];cases hc:decide (x.c=0)
 case true=>simp only[hc,go_sem,seval];refine aQ ?_;simp[hq,hc]
 simp only[hc,go_sem,seval];refine aB (c89 h89 x.c) (Wk ?_);cases h9:nT x.c;refine Wk ?_;refine aQ ?_;simp[hq,h9];cases hd:decide (0<(d.length:Int));simp only[hd,aW hb,go_sem,seval];refine And.intro (by kernel_rfl) ⟨h1,rfl,?_⟩;have:d=[]:=by cases d<;>simp_all<;>omega
 subst this;simp[hq,h9,hc,hn];obtain⟨d',y,rfl⟩:∃d' y,d=d'++[y]:=by
  rcases mK d with rfl|⟨d',y,h⟩
  simp at hd;exact⟨d',y,by simpa using h⟩
 have hy:(d'++[y]++x::r)[(wr .i64 (((d'++[y]).length:Int)-1)).toNat]?=some y:=by
  have:wr .i64 (((d'++[y]).length:Int)-1)=(d'.length:Int):=by simp only[bX,List.length_cons,List.length_nil,big]at *;rw[aO (by omega) (by omega)];omega
  rw[this];simp
 have hy0:(0<=wr .i64 (((d'++[y]).length:Int)-1))=True:=by
  have:wr .i64 (((d'++[y]).length:Int)-1)=(d'.length:Int):=by simp only[bX,List.length_cons,List.length_nil,big]at *;rw[aO (by omega) (by omega)];omega
  rw[this];simp
 simp only[hd,h1,hy,hy0,go_sem,seval];cases hl:Op.bytesLess y.v.bs x.v.bs;refine Wk ?_;refine aQ ?_;simp[hq,hl];simp only[aW hb,go_sem,seval];refine And.intro (by kernel_rfl) ⟨h1,rfl,?_⟩;simp[hq,h9,hc,hn,hl]
theorem El.str(s:List UInt8):El 1 false (.str s):=⟨rfl,rfl,rfl⟩
theorem El.int(n:Int):El 1 false (.int .i64 n):=⟨rfl,rfl,rfl⟩
theorem El.bool(b:Bool):El 1 false (.bool b):=⟨rfl,rfl,rfl⟩
theorem c96(hf:pg.fs 96=some W1)(l:Lin):bE pg 96 [l.av] (nP 1 false (l.ts.es.map λx => .str x.v.bs)):=by
 refine bE.ofX hf ?_;have hb:=l.ts.ok
 have hel:∀d:List cL,∀x∈d.map (λx:cL=>AV.str x.v.bs),El 1 false x:=by intro d x hx;simp only[List.mem_map]at hx;obtain⟨y,_,rfl⟩:=hx;exact El.str _
 unfold W1;refine Wk ?_;refine aK l.ts.es (λd r env hp=>∃v,env=RB v (.sl l.ts.nl (l.ts.es.map cL.av) l.ts.cl) (.int .i64 l.ts.es.length) (.int .i64 d.length)/\Own hp 9 1 false v (d.map λx => .str x.v.bs)) ?_ ?_ ?_;exact⟨_,rfl,Own.nil _ _ _ _ _ _ rfl⟩;rintro env hp ⟨v,rfl,ho⟩;simp only[RA,RB,go_sem,seval];exact ho.conv (hel _);rintro d x r env hp hes ⟨v,rfl,ho⟩;rw[hes]at hb ⊢;simp only[RA,RB,go_sem,seval];refine eF (kb:=0) (s:=9) (bytes:=16) (es:=d.map λx => .str x.v.bs) (ho.mono ?_) (hel _) (xs:=[.str x.v.bs]) (by intro y hy;simp at hy;subst hy;exact El.str _) ?_ (by decide) ?_;simp only[go_sem,seval];simp only[bX,List.length_cons,List.length_nil,aI,big]at *;omega;intro v' rd pa ho' hk hpa;simp only[aW hb,go_sem,seval];exact⟨v',rfl,by simpa using ho'⟩
theorem c138(hf:pg.fs 138=some BM)(nl cl:Bool)(es:List Str)(hb:es.length<=big)(v:List UInt8) :
  bE pg 138 [.sl nl (es.map Str.av) cl,.str v] (λr=>∃i:Int,r = .int .i64 i/\decide (0<=i)=es.any (λs=>decide (v=s.bs))):=
 I2 (f:=138) (k:=.bin .eql) hf Str.av (λ_=>rfl) nl cl es hb (.str v) (λs=>decide (v=s.bs)) (by intro kb s h x Q t;simp only[go_sem,seval])
theorem c98(hf:pg.fs 98=some Q9)(h138:pg.fs 138=some BM)(nl cl:Bool)(es:List Str)(hb:es.length<=big)(v:List UInt8) :
  Ret pg 98 [.sl nl (es.map Str.av) cl,.str v] (.bool (es.any (λs=>decide (v=s.bs)))):=
 qC (n:=138) hf (by simp only[go_sem,seval]) (c138 h138 nl cl es hb v)
def lD(vars:List Str)(v:List UInt8):Bool:=vars.any (λs=>decide (v=s.bs))
def cU(ls:List Lin)(vars:List Str):Bool:=ls.all λl=>fE l&&l.ts.es.all λx=>lD vars x.v.bs
theorem c97{f:Nat}(hf:pg.fs f=some W0)(h98:pg.fs 98=some Q9)(h138:pg.fs 138=some BM)(nl cl:Bool)(es:List Str)(hb:es.length<=big)(v:List UInt8) :
  Ret pg f [.str v,.fp (.sl nl (es.map Str.av) cl)] (.bool (!lD es v)):=by
 refine Ret.ofX hf ?_;unfold W0;refine Wk ?_;refine aB (c98 h98 h138 nl cl es hb v) (Wk ?_);rfl
theorem c137(hf:pg.fs 137=some HT)(nl cl:Bool)(es:List Str)(hb:es.length<=big)(g:Nat)(cs:List AV)(hcs:treeL cs=true)(p:Str->Bool)(hp:∀x∈es,Ret pg g (x.av::cs) (.bool (p x))) :
  bE pg 137 [.sl nl (es.map Str.av) cl,.fn g cs] (λr=>∃i:Int,r = .int .i64 i/\decide (0<=i)=es.any p):=
 x4 (f:=137) (esz:=1) (ag:=false) hf Str.av (λ_=>rfl) (λ_=>rfl) nl cl es hb g cs hcs p hp
theorem c95(hf:pg.fs 95=some aAC)(h137:pg.fs 137=some HT)(nl cl:Bool)(es:List Str)(hb:es.length<=big)(g:Nat)(cs:List AV)(hcs:treeL cs=true)(p:Str->Bool)(hp:∀x∈es,Ret pg g (x.av::cs) (.bool (p x))) :
  Ret pg 95 [.sl nl (es.map Str.av) cl,.fn g cs] (.bool (es.any p)):=
 qC (n:=137) hf (by simp only[treeL,pP,u4,hcs,Str.treeL,Bool.and_true]) (c137 h137 nl cl es hb g cs hcs p hp)
theorem MD{f g:Nat}(hf:pg.fs f=some (aED g))(h51:∀l:Lin,Ret pg 51 [l.av] (.bool (fE l)))(h96:pg.fs 96=some W1)(h95:pg.fs 95=some aAC)(h137:pg.fs 137=some HT)(h97:pg.fs g=some W0)(h98:pg.fs 98=some Q9)(h138:pg.fs 138=some BM)
  (nl cl:Bool) (ls:List Lin) (hb:ls.length<=big) (nl' cl':Bool) (vars:List Str) (hb':vars.length<=big):Ret pg f [.sl nl (ls.map Lin.av) cl,.sl nl' (vars.map Str.av) cl'] (.bool (cU ls vars)):=by
 refine Ret.ofX hf ?_;unfold aED;refine Wk ?_;refine eO ls (λd e=>eV e (some 9) (.int .i64 d.length)) (λd r hp=>(∃fz,hp.get 1=some (0,.blk [.sl nl' (vars.map Str.av) cl'] 1 false true fz))/\cU ls vars=cU r vars) rfl ?_ ?_ ?_;exact⟨⟨_,rfl⟩,rfl⟩;rintro hp ⟨⟨fz,h1⟩,hI⟩;simp only[P3,P2,go_sem,seval];rw[hI];rfl;rintro d x r hp hes ⟨⟨fz,h1⟩,hI⟩;subst hes;simp only[P3,P2,go_sem,seval];refine aB (h51 x) (Wk ?_);cases hx:fE x;refine Wk ?_;rw[hI];simp[cU,hx];refine Wk ?_;refine lQ (c96 h96 x) (by simp only[go_sem,seval]) ?_;intro nl2 cl2 hnl;refine Wk ?_;have hv:∀y∈x.ts.es.map (λc=>c.v),Ret pg g (y.av::[.fp (.sl nl' (vars.map Str.av) cl')]) (.bool (!lD vars y.bs)):=λy _=>c97 h97 h98 h138 nl' cl' vars hb' y.bs;have h9:=c95 h95 h137 nl2 cl2 (x.ts.es.map λc=>c.v) (by have:=x.ts.ok;simpa using this) g [.fp (.sl nl' (vars.map Str.av) cl')] (by simp only[go_sem,seval]) (λy => !lD vars y.bs) hv;have hm:List.map (λx=>AV.str x.v.bs) x.ts.es=List.map Str.av (x.ts.es.map λc=>c.v):=by simp[Str.av]
 rw[hm];refine cK (h9) (by simp only[ h1,depth,cF,bD,eK,go_sem,seval];rfl) (by first|rfl|simp only[gO]) (Wk ?_)
 have hany:(List.map (λc=>c.v) x.ts.es).any (λy => !lD vars y.bs) = !(x.ts.es.all λc=>lD vars c.v.bs):=by simp[List.any_map,List.not_all_eq_any_not];rfl
 rw[hany];cases hy:x.ts.es.all λc=>lD vars c.v.bs;refine Wk ?_;rw[hI];simp[cU,hx,hy];simp only[h1,aW hb,go_sem,seval];exact⟨⟨fz,rfl⟩,by simpa[cU,hx,hy] using hI⟩
def i8(x y:cL):Bool:=decide (x.v.bs=y.v.bs)&&decide (x.c=y.c)
def cC(a b:Lin):Bool:=decide (a.c=b.c)&&eqL i8 a.ts.es b.ts.es
def gN(a b:bZ):Bool:=decide (a.row.bs=b.row.bs)&&eqL cC a.dims.es b.dims.es
def iR(a b:Typ):Bool:=decide (a.elem.bs=b.elem.bs)&&gN a.shape b.shape
theorem c106(hf:pg.fs 106=some BP)(nl cl nl' cl':Bool)(es es':List cL)(hb:es.length<=big):Ret pg 106 [.sl nl (es.map cL.av) cl,.sl nl' (es'.map cL.av) cl'] (.bool (eqL i8 es es')):=
 aAh (f:=106) (k:=.eqs true [1,0]) hf cL.av (λ_=>by simp only[go_sem,seval]) nl cl nl' cl' es es' hb i8 (by intro kb s h x y Q t;simp only[go_sem,seval];simp[i8]) rfl
theorem c142(hf:pg.fs 142=some HS)(h106:pg.fs 106=some BP)(a b:Lin):Ret pg 142 [a.av,b.av] (.bool (cC a b)):=by refine Ret.ofX hf ?_;unfold HS;refine Wk ?_;cases h:decide (a.c=b.c);refine Wk ?_;simp[cC,h];refine Wk ?_;refine aB (c106 h106 _ _ _ _ a.ts.es b.ts.es a.ts.ok) (Wk ?_);simp[cC,h]
theorem c68(hf:pg.fs 68=some aAT)(h106:pg.fs 106=some BP)(a b:Lin):Ret pg 68 [a.av,b.av] (.bool (cC a b)):=by refine Ret.ofX hf ?_;unfold aAT;refine Wk ?_;cases h:decide (a.c=b.c);refine Wk ?_;simp[cC,h];refine Wk ?_;refine aB (c106 h106 _ _ _ _ a.ts.es b.ts.es a.ts.ok) (Wk ?_);simp[cC,h]
theorem c143(hf:pg.fs 143=some OH)(h106:pg.fs 106=some BP)(a b:Lin):Ret pg 143 [a.av,b.av] (.bool (cC a b)):=by refine Ret.ofX hf ?_;unfold OH;refine Wk ?_;cases h:decide (a.c=b.c);refine Wk ?_;simp[cC,h];refine Wk ?_;refine aB (c106 h106 _ _ _ _ a.ts.es b.ts.es a.ts.ok) (Wk ?_);simp[cC,h]
theorem c67(hf:pg.fs 67=some aAU)(g:Nat)(hg:∀a b:Lin,Ret pg g [a.av,b.av] (.bool (cC a b)))(nl cl nl' cl':Bool)(es es':List Lin)(hb:es.length<=big) :
  Ret pg 67 [.sl nl (es.map Lin.av) cl,.sl nl' (es'.map Lin.av) cl',.fn g []] (.bool (eqL cC es es')):=
 QZ (f:=67) (esz:=2) (ag:=true) rfl hf Lin.av (λx=>[.int .i64 x.c,x.ts.av cL.av]) (λ_=>rfl) (λ_=>rfl) (λ_=>rfl) rfl (λx=>by simp only[go_sem,seval]) nl cl nl' cl' es es' hb g cC (λx _ y _=>hg x y)
theorem c104(hf:pg.fs 104=some OW)(h67:pg.fs 67=some aAU)(h142:pg.fs 142=some HS)(h106:pg.fs 106=some BP)(a b:bZ):Ret pg 104 [a.av,b.av] (.bool (gN a b)):=by refine Ret.ofX hf ?_;unfold OW;refine Wk ?_;cases h:decide (a.row.bs=b.row.bs);refine Wk ?_;simp[gN,h];refine Wk ?_;refine aB (c67 h67 142 (c142 h142 h106) _ _ _ _ a.dims.es b.dims.es a.dims.ok) (Wk ?_);simp[gN,h]
theorem c65(hf:pg.fs 65=some aAW)(h104:∀a b:bZ,Ret pg 104 [a.av,b.av] (.bool (gN a b)))(a b:Typ):Ret pg 65 [a.av,b.av] (.bool (iR a b)):=by refine Ret.ofX hf ?_;unfold aAW;refine Wk ?_;cases h:decide (a.elem.bs=b.elem.bs);refine Wk ?_;simp[iR,h];refine Wk ?_;refine aB (h104 a.shape b.shape) (Wk ?_);simp[iR,h]
end
end
section
def gJ:List UInt8:=[105,110,116]
def lI:List UInt8:=[98,111,111,108]
def sA:List UInt8:=[65]
structure vO where
 op:List UInt8
 params:List (List UInt8)
 result:List UInt8
def kL:List vO:=[
 ⟨[97,100,100],[gJ,gJ],gJ⟩,⟨[115,117,98],[gJ,gJ],gJ⟩,⟨[109,117,108],[gJ,gJ],gJ⟩,⟨[100,105,118],[gJ,gJ],gJ⟩,⟨[109,111,100],[gJ,gJ],gJ⟩,
 ⟨[109,105,110],[gJ,gJ],gJ⟩,⟨[109,97,120],[gJ,gJ],gJ⟩,⟨[110,101,103],[gJ],gJ⟩,⟨[97,98,115],[gJ],gJ⟩,⟨[115,105,103,110],[gJ],gJ⟩,
 ⟨[108,116],[gJ,gJ],lI⟩,⟨[108,101],[gJ,gJ],lI⟩,⟨[103,116],[gJ,gJ],lI⟩,⟨[103,101],[gJ,gJ],lI⟩,⟨[101,113],[sA,sA],lI⟩,⟨[110,101],[sA,sA],lI⟩,
 ⟨[97,110,100],[lI,lI],lI⟩,⟨[111,114],[lI,lI],lI⟩,⟨[120,111,114],[lI,lI],lI⟩,⟨[110,111,116],[lI],lI⟩,
 ⟨[115,101,108,101,99,116],[lI,sA,sA],sA⟩,⟨[116,111,105,110,116],[lI],gJ⟩]
def vO.cells(r:vO):List AV:=[.str r.op,.sl false (r.params.map .str) true,.str r.result]
def YG:AV:=.agg (kL.flatMap vO.cells)
def jS(op:List UInt8):Option vO:=kL.find? λr=>decide (r.op=op)
section
variable{pg:Pg}
theorem c107(hf:pg.fs 107=some E6)(nl cl:Bool)(es:List AV)(hel:∀x∈es,El 1 false x)(hb:es.length<=big)(hnl:nl=true->es=[]):bE pg 107 [.sl nl es cl] (nP 1 false es):=by refine bE.ofX hf ?_;unfold E6;refine Wk ?_;cases nl;refine Wk ?_;refine eF (kb:=0) (s:=1) (bytes:=16) (es:=[]) (xs:=es) (Own.nil _ _ _ _ _ _ rfl) (by simp) hel ?_ (by decide) ?_;simp only[List.length_nil,big]at *;omega;intro v' rd pa ho hk hpa;refine Wk ?_;exact ho.conv (by simpa using hel);refine Wk ?_;exact .inl ⟨hnl rfl,true,true,rfl,rfl⟩
theorem c177(hf:pg.fs 177=some E2):Ret pg 177 [] YG:=
 Ret.closed (.n 177 E2 .e .e) (by intro f cf h;have:=BT.All.find (p:=λf cf=>pg.fs f=some cf) (t:=.n 177 E2 .e .e) ⟨hf,trivial,trivial⟩ h;exact this) 2 (by kernel_rfl)
theorem aGc(d:List vO)(x:vO)(r:List vO):gP ((d++x::r).flatMap vO.cells) (d.length*3) 3 true=some (.agg x.cells):=by
 have hl:∀l:List vO,(l.flatMap vO.cells).length=l.length*3:=by
  intro l
  induction l with
  |nil=>rfl
  |cons y s ih=>simp[vO.cells,ih];omega
 rw[GF,if_pos (by rw[hl];simp;omega)];rw[List.flatMap_append,List.drop_append_of_le_length (by rw[hl];omega),List.drop_eq_nil_of_le (by rw[hl];omega),List.nil_append];rw[List.flatMap_cons];have:x.cells.length=3:=rfl;rw[<-this,List.take_left]
def j2(op:List UInt8)(r:AV):Prop:=
 match jS op with
 |none=>r = .tup [.sl true [] true,.str [],.bool false]
 |some p=>∃nl cl,r = .tup [.sl nl (p.params.map .str) cl,.str p.result,.bool true]
theorem c140(hf:pg.fs 140=some OJ)(h177:pg.fs 177=some E2)(h107:pg.fs 107=some E6)(op:List UInt8):bE pg 140 [.str op] (j2 op):=by
 refine bE.ofX hf ?_;unfold OJ;refine Wk ?_;refine aB (c177 h177) (Wk ?_);have h22:(22:Int)=kL.length:=rfl;refine eO kL (λd e=>eV e (some 8) (.int .i64 d.length)) (λd r hp=>jS op=r.find? λx=>decide (x.op=op)) rfl ?_ ?_ ?_;rfl;intro hp hI;simp only[KY,KX,<-h22,go_sem,seval];simp[j2,hI];intro d x r hp hes hI;have hlt:decide ((d.length:Int)<22)=true:=by rw[h22,hes];exact aEG d x r
 have hlt':((d.length:Int)<22)=True:=by simpa using hlt
 have hpa:gP (kL.flatMap vO.cells) (d.length*3) 3 true=some (.agg x.cells):=by rw[hes];exact aGc d x r
 have hb:(d++x::r).length<=big:=by rw[<-hes];decide
 have hlt'':((d.length:Int)<((22:Nat):Int))=True:=by simpa using hlt
 simp only[KY,KX,YG,hlt,hlt',hlt'',hpa,vO.cells,go_sem,seval];cases hx:decide (x.op=op);simp only[aW hb,go_sem,seval];simpa[List.find?_cons,hx] using hI;refine Wk ?_;have hel:∀y∈x.params.map AV.str,El 1 false y:=by intro y hy;simp only[List.mem_map]at hy;obtain⟨z,_,rfl⟩:=hy;exact El.str z
 have hI':jS op=some x:=by simpa[List.find?_cons,hx] using hI
 refine VD (c107 h107 false true (x.params.map .str) hel ?_ (by simp)) ?_ hel ?_ ?_;have:∀y∈kL,y.params.length<=big:=by decide
 simpa using this x (by rw[hes];simp);simp only[treeL,pP,Bool.and_true];exact bJ (f:=AV.str) (λ_=>rfl) x.params;intro hnil nl cl _;refine Wk ?_;refine aQ ?_;simp only[j2,hI'];exact⟨nl,cl,by rw[hnil]⟩;intro cs hcs hch;refine Wk ?_;refine aQ ?_;have htr:treeL (x.params.map AV.str)=true:=bJ (f:=AV.str) (λ_=>rfl) x.params;have hms:∀h,dA (snap 62 h) (x.params.map AV.str)=some (x.params.map AV.str,[]):=λh=>eZ 61 h htr;have hch':nZ 1 false x.params.length cs=some (x.params.map AV.str):=by simpa using hch
 simp only[hms,hch',j2,hI',conv,depth,eK,cF,bD,go_sem,seval];exact⟨false,_,rfl⟩
def nC(n:Int):Bool:=decide (-2147483648<=n)&&decide (n<=2147483647)
def sG(n:Int):Bool:=decide (n=0)||decide (n=1)
theorem aFJ(hf:pg.fs 148=some yQ)(n:Int):Ret pg 148 [.str [105,110,116],.int .i64 n] (.bool (nC n)):=by
 refine Ret.ofX hf ?_;unfold yQ
 repeat' (first|simp only[*,go_sem,seval]|refine aR (λ_=>?_) (λ_=>?_)|refine aU (λ_=>?_) (λ_=>?_)|refine aQ ?_)
 all_goals simp[nC, *]
theorem aJV(hf:pg.fs 148=some yQ)(n:Int):Ret pg 148 [.str [98,111,111,108],.int .i64 n] (.bool (sG n)):=by
 refine Ret.ofX hf ?_;unfold yQ;refine Wk ?_;simp only[show decide (([98,111,111,108]:List UInt8)=[105,110,116])=false by decide]
 repeat' (first|simp only[*,go_sem,seval]|refine aR (λ_=>?_) (λ_=>?_)|refine aU (λ_=>?_) (λ_=>?_)|refine aQ ?_)
 all_goals simp[sG, *]
def jP(l:List Int)(n:Int):Bool:=l.all λa=>decide (0<=a)&&decide (a<n)
def jK(s:aL)(n:Int):Bool:=
 if s.op.bs=[99,111,110,115,116] then decide ((s.args.es.length:Int)=0)&&nC s.num
 else if s.op.bs=[116,114,117,116,104] then decide ((s.args.es.length:Int)=0)&&sG s.num
 else match jS s.op.bs with
  |none=>false
  |some p=>jP s.args.es n&&decide (s.num=0)&&decide ((s.args.es.length:Int)=(p.params.length:Int))
theorem c111(hf:pg.fs 111=some OT)(h148:pg.fs 148=some yQ)(h140:∀op,bE pg 140 [.str op] (j2 op))(s:aL)(n:Int):Ret pg 111 [s.av,.int .i64 n] (.bool (jK s n)):=by
 refine Ret.ofX hf ?_;have hb:=s.args.ok;unfold OT;refine Wk ?_;cases h1:decide (s.op.bs=[99,111,110,115,116])
 case true=>refine Wk ?_;cases h2:decide ((s.args.es.length:Int)=0);simp only[h2,go_sem,seval];simp at h1 h2;simp[jK,h1,h2];simp only[h2,go_sem,seval];refine aB (aFJ h148 s.num) (Wk ?_);simp at h1 h2;simp[jK,h1,h2]
 refine Wk ?_;cases h3:decide (s.op.bs=[116,114,117,116,104])
 case true=>refine Wk ?_;cases h2:decide ((s.args.es.length:Int)=0);simp only[h2,go_sem,seval];simp at h1 h2 h3;simp[jK,h1,h2,h3];simp only[h2,go_sem,seval];refine aB (aJV h148 s.num) (Wk ?_);simp at h1 h2 h3;simp[jK,h1,h2,h3]
 refine Wk ?_;obtain⟨r,hr,hP⟩:=h140 s.op.bs
 have hspec:jK s n=match jS s.op.bs with
  |none=>false
  |some p=>jP s.args.es n&&decide (s.num=0)&&decide ((s.args.es.length:Int)=(p.params.length:Int)):=by
  simp at h1 h3;simp[jK,h1,h3]
 generalize jK s n=res at hspec ⊢;obtain⟨nl,cl,ps,rs,ok,rfl,hres⟩:∃nl cl,∃ps:List (List UInt8),∃rs ok,r = .tup [.sl nl (ps.map .str) cl,.str rs,.bool ok]/\res=(ok&&jP s.args.es n&&decide (s.num=0)&&decide ((s.args.es.length:Int)=(ps.length:Int))):=by
  unfold j2 at hP;cases hp:jS s.op.bs with
  |none=>rw[hp]at hP hspec;exact⟨_,_,[],_,_,hP,by simp[hspec]⟩
  |some p=>rw[hp]at hP hspec;obtain⟨nl,cl,hP⟩:=hP;exact⟨_,_,p.params,_,_,hP,by simp[hspec]⟩
 refine aB hr (Wk ?_)
 refine eO s.args.es (λd e=>eV (eV e (some 44) (.int .i64 d.length)) (some 7) (.bool (ok&&jP d n))) (λd r hp=>(∃fz,hp.get 1=some (0,.blk [.str s.op.bs,.int .i64 s.num,.sl s.args.nl (s.args.es.map aJ) s.args.cl] 3 true true fz)))
  (by have h0:(ok&&jP [] n)=ok:=by simp[jP]
      rw[h0];rfl) ?_ ?_ ?_
 exact⟨_,rfl⟩;rintro hp ⟨fz,h1⟩;simp only[K7,K6,go_sem,seval];cases h4:ok&&jP s.args.es n;simp only[h4,h1,go_sem,seval];simp[hres,h4];cases h5:decide (s.num=0);simp only[h1,h5,go_sem,seval];simp[hres,h4,h5];simp only[h1,h5,go_sem,seval];simp[hres,h4,h5]
 ·rintro d x r hp hes ⟨fz,h1⟩;rw[hes]at hb h1 ⊢;have hx:(ok&&jP (d++[x]) n)=((ok&&jP d n)&&(decide (0<=x)&&decide (x<n))):=by simp[jP,Bool.and_assoc]
  rw[hx];cases hA:(ok&&jP d n)<;>cases hB:decide (0<=x)<;>cases hC:decide (x<n)
  all_goals simp only[K7,K6,hA,hB,hC,aW hb,go_sem,seval]
  all_goals exact⟨fz,h1⟩
end
end
section
structure X0(pg:Pg):Prop where
 name:∀s:Str,Ret pg 57 [.str s.bs] (.bool (gR s.bs))
 trim:∀s:List UInt8,s.length<=big->∃t,Ret pg 94 [.str s,.str [48,49,50,51,52,53,54,55,56,57]] (.str t)/\decide (t=[])=s.all bL
 loop:∀i:Nat,i<10->Ret pg 108 [.int .i64 i] (.str (t8 i))
def BZ(s:List UInt8):Bool:=
 match s with
 | c::d::t=>(decide ((c.toNat:Int)=105)||decide ((c.toNat:Int)=106))&&(d::t).all bL
 |_=>false
def nA(s:bZ):Bool:=(decide (s.row.bs=[])||gR s.row.bs)&&decide ((s.dims.es.length:Int)<=6)&&s.dims.es.all fE
def sS(t:Typ):Bool:=(decide (t.elem.bs=[105,110,116])||decide (t.elem.bs=[98,111,111,108])||gL t.elem.bs)&&nA t.shape
def gB(t:Typ)(vars:List Str):Bool:=sS t && !gL t.elem.bs&&decide (t.shape.row.bs=[])&&cU t.shape.dims.es vars
def mL(p:List Str):List Str->Bool
 |[]=>true
 |x::r=>gR x.bs && !BZ x.bs&&(match p.getLast? with|none=>true|some q=>Op.bytesLess q.bs x.bs)&&mL (p++[x]) r
section
variable{pg:Pg}
theorem c101(B:X0 pg)(hf:pg.fs 101=some OY)(s:Str):Ret pg 101 [.str s.bs] (.bool (gL s.bs)):=by
 obtain⟨s,hb⟩:=s;refine Ret.ofX hf ?_;unfold OY;cases s with
 |nil=>
  repeat' (first|simp only[*,go_sem,seval]|refine aR (λ_=>?_) (λ_=>?_)|refine aU (λ_=>?_) (λ_=>?_)|refine aQ ?_)
  all_goals simp_all [gL]
 |cons c t=>
  obtain⟨u,hu,hd⟩:=B.trim t (by simp[big]at hb ⊢;omega);have hl:¬((↑(t.length+1):Int)<1):=by omega
  repeat' (first|simp only[*,go_sem,seval]|refine aR (λ_=>?_) (λ_=>?_)|refine aU (λ_=>?_) (λ_=>?_)|(refine aB hu ?_)|refine aQ ?_)
  all_goals (simp_all [gL])
  all_goals (try omega)
theorem c58(B:X0 pg)(hf:pg.fs 58=some aBc)(s:Str):Ret pg 58 [.str s.bs] (.bool (BZ s.bs)):=by
 obtain⟨s,hb⟩:=s;refine Ret.ofX hf ?_;unfold aBc
 match s,hb with
 |[],hb=>
  repeat' (first|simp only[*,go_sem,seval]|refine aR (λ_=>?_) (λ_=>?_)|refine aU (λ_=>?_) (λ_=>?_)|refine aQ ?_)
  all_goals simp_all [BZ]
 |[c],hb=>
  repeat' (first|simp only[*,go_sem,seval]|refine aR (λ_=>?_) (λ_=>?_)|refine aU (λ_=>?_) (λ_=>?_)|refine aQ ?_)
  all_goals simp_all [BZ]
 |c::d::t,hb=>
  obtain⟨u,hu,hd⟩:=B.trim (d::t) (by simp[big]at hb ⊢;omega);have hl:decide ((1:Int) < ↑(t.length+1+1))=true:=by simp;omega
  repeat' (first|simp only[*,go_sem,seval]|refine aR (λ_=>?_) (λ_=>?_)|refine aU (λ_=>?_) (λ_=>?_)|(refine aB hu ?_)|refine aQ ?_)
  all_goals (simp_all [BZ])
  all_goals (try omega)
theorem c176(hf:pg.fs 176=some HN)(h51:∀l:Lin,Ret pg 51 [l.av] (.bool (fE l)))(l:Lin):Ret pg 176 [l.av] (.bool (!fE l)):=by
 refine Ret.ofX hf ?_;unfold HN
 repeat' (first|simp only[*,go_sem,seval]|refine aR (λ_=>?_) (λ_=>?_)|refine aU (λ_=>?_) (λ_=>?_)|(refine aB (h51 l) ?_)|refine aQ ?_)
theorem c205(hf:pg.fs 205=some HK)(nl cl:Bool)(es:List Lin)(hb:es.length<=big)(g:Nat)(cs:List AV)(hcs:treeL cs=true)(p:Lin->Bool)(hp:∀x∈es,Ret pg g (x.av::cs) (.bool (p x))) :
  bE pg 205 [.sl nl (es.map Lin.av) cl,.fn g cs] (λr=>∃i:Int,r = .int .i64 i/\decide (0<=i)=es.any p):=
 x4 (f:=205) (esz:=2) (ag:=true) hf Lin.av (λ_=>by simp only[go_sem,seval]) (λ_=>by simp only[go_sem,seval]) nl cl es hb g cs hcs p hp
theorem c175(hf:pg.fs 175=some OD)(h205:pg.fs 205=some HK)(nl cl:Bool)(es:List Lin)(hb:es.length<=big)(g:Nat)(cs:List AV)(hcs:treeL cs=true)(p:Lin->Bool)(hp:∀x∈es,Ret pg g (x.av::cs) (.bool (p x))) :
  Ret pg 175 [.sl nl (es.map Lin.av) cl,.fn g cs] (.bool (es.any p)):=
 qC (n:=205) hf (by simp only[treeL,pP,u4,hcs,Lin.treeL_av,Bool.and_true]) (c205 h205 nl cl es hb g cs hcs p hp)
theorem c139(B:X0 pg)(hf:pg.fs 139=some OK)(h175:pg.fs 175=some OD)(h205:pg.fs 205=some HK)(h176:pg.fs 176=some HN)(h51:∀l:Lin,Ret pg 51 [l.av] (.bool (fE l)))(s:bZ) :
  Ret pg 139 [s.av] (.bool (nA s)):=by
 refine Ret.ofX hf ?_;have hc:=c175 h175 h205 s.dims.nl s.dims.cl s.dims.es s.dims.ok 176 [] rfl (λl => !fE l) (λl _=>c176 h176 h51 l);unfold OK
 repeat' (first|simp only[*,go_sem,seval]|refine aR (λ_=>?_) (λ_=>?_)|refine aU (λ_=>?_) (λ_=>?_)|(refine aB (B.name s.row) ?_)|(refine aB hc ?_)|refine aQ ?_)
 all_goals (have hany:(s.dims.es.any λl => !fE l) = !(s.dims.es.all fE):=by rw[List.not_all_eq_any_not])
 all_goals (simp_all [nA])
 all_goals (intro h;exfalso;omega)
theorem c100(hf:pg.fs 100=some OZ)(h101:∀s:Str,Ret pg 101 [.str s.bs] (.bool (gL s.bs)))(h139:∀s:bZ,Ret pg 139 [s.av] (.bool (nA s)))(t:Typ):Ret pg 100 [t.av] (.bool (sS t)):=by
 refine Ret.ofX hf ?_;unfold OZ
 repeat' (first|simp only[*,go_sem,seval]|refine aR (λ_=>?_) (λ_=>?_)|refine aU (λ_=>?_) (λ_=>?_)|(refine aB (h101 t.elem) ?_)|(refine aB (h139 t.shape) ?_)|refine aQ ?_)
 all_goals (simp_all [sS])
theorem c62(hf:pg.fs 62=some aAZ)(h100:∀t:Typ,Ret pg 100 [t.av] (.bool (sS t)))(h101:∀s:Str,Ret pg 101 [.str s.bs] (.bool (gL s.bs)))
  (h59:∀(nl cl:Bool)(ls:List Lin),ls.length<=big->∀(nl' cl':Bool)(vars:List Str),vars.length<=big->Ret pg 59 [.sl nl (ls.map Lin.av) cl,.sl nl' (vars.map Str.av) cl'] (.bool (cU ls vars)))
  (t:Typ) (nl cl:Bool) (vars:List Str) (hb:vars.length<=big):Ret pg 62 [t.av,.sl nl (vars.map Str.av) cl] (.bool (gB t vars)):=by
 refine Ret.ofX hf ?_;unfold aAZ
 repeat' (first|simp only[*,go_sem,seval]|refine aR (λ_=>?_) (λ_=>?_)|refine aU (λ_=>?_) (λ_=>?_)|(refine aB (h100 t) ?_)|(refine aB (h101 t.elem) ?_)|(refine aB (h59 _ _ t.shape.dims.es t.shape.dims.ok nl cl vars hb) ?_)|refine aQ ?_)
 all_goals (simp_all [gB])
theorem c61(hf:pg.fs 61=some aBa)(h62:∀(t:Typ) (nl cl:Bool) (vars:List Str),vars.length<=big->Ret pg 62 [t.av,.sl nl (vars.map Str.av) cl] (.bool (gB t vars)))(t:Typ)(k:aA) :
  Ret pg 61 [t.av,.fp k.av] (.bool (!gB t k.vars.es)):=by
 refine Ret.ofX hf ?_;unfold aBa
 repeat' (first|simp only[*,go_sem,seval]|refine aR (λ_=>?_) (λ_=>?_)|refine aU (λ_=>?_) (λ_=>?_)|(refine aB (h62 t _ _ k.vars.es k.vars.ok) ?_)|refine aQ ?_)
theorem c99(hf:pg.fs 99=some WZ)(nl cl:Bool)(es:List Typ)(hb:es.length<=big)(g:Nat)(cs:List AV)(hcs:treeL cs=true)(p:Typ->Bool)(hp:∀x∈es,Ret pg g (x.av::cs) (.bool (p x))) :
  bE pg 99 [.sl nl (es.map Typ.av) cl,.fn g cs] (λr=>∃i:Int,r = .int .i64 i/\decide (0<=i)=es.any p):=
 x4 (f:=99) (esz:=3) (ag:=true) hf Typ.av (λ_=>by simp only[go_sem,seval]) (λ_=>by simp only[go_sem,seval]) nl cl es hb g cs hcs p hp
theorem c60(hf:pg.fs 60=some aBb)(h99:pg.fs 99=some WZ)(nl cl:Bool)(es:List Typ)(hb:es.length<=big)(g:Nat)(cs:List AV)(hcs:treeL cs=true)(p:Typ->Bool)(hp:∀x∈es,Ret pg g (x.av::cs) (.bool (p x))) :
  Ret pg 60 [.sl nl (es.map Typ.av) cl,.fn g cs] (.bool (es.any p)):=
 qC (n:=99) hf (by simp only[treeL,pP,u4,hcs,Typ.treeL_av,Bool.and_true]) (c99 h99 nl cl es hb g cs hcs p hp)
def bO(k:aA):Bool:=
 mL [] k.vars.es&&(decide ((k.vars.es.length:Int)<=12)&&cU k.wher.es k.vars.es&&decide (0<=k.inputs)&&decide (k.inputs<=8)&&decide (k.inputs<=k.values.es.length)&&decide ((k.values.es.length:Int)<=k.inputs+400) &&
  decide ((k.list.es.length:Int)<=400)&&k.values.es.all λt=>gB t k.vars.es)
theorem c43(B:X0 pg)(hf:pg.fs 43=some aBi)(h58:∀s:Str,Ret pg 58 [.str s.bs] (.bool (BZ s.bs)))
  (h59:∀(nl cl:Bool)(ls:List Lin),ls.length<=big->∀(nl' cl':Bool)(vars:List Str),vars.length<=big->Ret pg 59 [.sl nl (ls.map Lin.av) cl,.sl nl' (vars.map Str.av) cl'] (.bool (cU ls vars)))
  (h60:pg.fs 60=some aBb) (h99:pg.fs 99=some WZ) (h61:∀(t:Typ)(k:aA),Ret pg 61 [t.av,.fp k.av] (.bool (!gB t k.vars.es))) (k:aA):Ret pg 43 [k.av] (.bool (bO k)):=by
 have hb:=k.vars.ok;have hbl:=k.values.ok;have hall:=c60 h60 h99 k.values.nl k.values.cl k.values.es k.values.ok 61 [.fp k.av] (by simp only[go_sem,seval]) (λt => !gB t k.vars.es) (λt _=>h61 t k);have hov:=h59 k.wher.nl k.wher.cl k.wher.es k.wher.ok k.vars.nl k.vars.cl k.vars.es k.vars.ok;refine Ret.ofX hf ?_;unfold aBi;refine Wk ?_;refine eO k.vars.es (λd e=>eV e (some 8) (.int .i64 d.length)) (λd r hp=>(hp.get 1=some (0,.blk k.cells 6 true true false))/\mL [] k.vars.es=mL d r) rfl ?_ ?_ ?_;exact⟨rfl,rfl⟩
 ·rintro hp ⟨h1,hI⟩;simp only[mL]at hI;simp only[aA.cells,Sl.av]at h1;have hinp:decide (8<k.inputs)=false->decide (k.inputs<0)=false->wr .i64 (k.inputs+400)=k.inputs+400:=by intro a b;simp at a b;exact aO (by omega) (by omega)
  have hany:(k.values.es.any λt => !gB t k.vars.es) = !(k.values.es.all λt=>gB t k.vars.es):=by rw[List.not_all_eq_any_not]
  have hov':=hov;simp only[SC,SA];clear h59 h60 h99 h61 h58
  repeat' (first|simp only[*,go_sem,seval]|refine aR (λ_=>?_) (λ_=>?_)|refine aU (λ_=>?_) (λ_=>?_)|(refine aB hov' ?_)|(refine cK (hall) (by simp only[ h1,depth,cF,bD,eK,go_sem,seval];rfl) (by first|rfl|simp only[gO]) ?_)|refine aQ ?_)
  all_goals (clear hall hov hov' hf B)
  all_goals (simp only[aY,fL]at *)
  all_goals (clear h1 hp hb hbl)
  all_goals (try rw[hany])
  all_goals (clear hany hinp)
  all_goals (simp only[bO,hI,Bool.true_and])
  all_goals (simp_all)
  all_goals (try omega)
 rintro d x r hp hes ⟨h1,hI⟩;have h0:=h1;rw[hes]at hb hI;rw[hes];simp only[mL]at hI;simp only[aA.cells,Sl.av]at h1;rw[hes]at h1;simp only[SC,SA,h1,go_sem,seval];refine aB (B.name x) (Wk ?_);cases hn:gR x.bs;refine Wk ?_;simp[bO,hes,hI,hn];refine Wk ?_;refine aB (h58 x) (Wk ?_);cases hr:BZ x.bs
 case true=>refine Wk ?_;simp[bO,hes,hI,hr]
 refine Wk ?_;cases hd:decide (0<(d.length:Int));simp only[hd,aW hb,go_sem,seval];have:d=[]:=by cases d<;>simp_all<;>omega
 subst this;exact⟨h0,by simpa[hn,hr] using hI⟩;obtain⟨d',y,rfl⟩:∃d' y,d=d'++[y]:=by
  rcases mK d with rfl|⟨d',y,h⟩
  simp at hd;exact⟨d',y,by simpa using h⟩
 have hw:wr .i64 (((d'++[y]).length:Int)-1)=(d'.length:Int):=by simp only[bX,List.length_cons,List.length_nil,big]at *;rw[aO (by omega) (by omega)];omega
 have hy:(d'++[y]++x::r)[d'.length]?=some y:=by simp
 simp only[hd,h1,hw,hy,go_sem,seval];cases hl:Op.bytesLess y.bs x.bs;refine Wk ?_;have:mL [] k.vars.es=false:=by rw[hes,hI];simp[hl]
 simp[bO,this];simp only[aW hb,go_sem,seval];exact⟨h0,by simpa[hn,hr,hl] using hI⟩
end
end
section
def fS(n:Int):List aL->Bool
 |[]=>true
 |s::r=>jK s n&&fS (n+1) r
def d6(fn:List aL)(n:Int):Bool:=decide (0<=n)&&decide (n<=20)&&decide ((fn.length:Int)<=60) && !decide (n+fn.length=0)&&fS n fn
def fC(p:aC)(a b c d e f:Bool):Bool:=
 (a||decide (p.num=0))&&(b||decide (p.value=0))&&(c||decide (p.name.bs=[]))&&(d||decide ((p.at_.es.length:Int)=0))&&(e || !p.dyn&&decide (p.check=0))&&(f||decide ((p.fn.es.length:Int)=0))
def wL(p:aC)(values:Int):Bool:=
 fC p false true false true true false&&decide (0<=p.value)&&decide (p.value<values)&&decide (0<=p.check) &&
  (if p.dyn then decide ((p.at_.es.length:Int)<=5)&&decide ((p.kids.length:Int)=1) else decide ((p.at_.es.length:Int)<=6)&&decide ((p.kids.length:Int)=0)&&decide (p.check=0))
section
variable{pg:Pg}
theorem c70(hf:pg.fs 70=some aAR)(h111:∀(s:aL) (n:Int),Ret pg 111 [s.av,.int .i64 n] (.bool (jK s n)))(nl cl:Bool)(fn:List aL)(hb:fn.length<=big)(n:Int) :
  Ret pg 70 [.sl nl (fn.map aL.av) cl,.int .i64 n] (.bool (d6 fn n)):=by
 refine Ret.ofX hf ?_;unfold aAR;refine Wk ?_;cases h1:decide (n<0)
 case true=>
  simp only[h1,go_sem,seval];simp at h1;have:decide (0<=n)=false:=by simp;omega
  simp[d6,this]
 simp only[h1,go_sem,seval];cases h2:decide (20<n)
 case true=>
  simp only[h2,go_sem,seval];simp at h2;have:decide (n<=20)=false:=by simp;omega
  simp[d6,this]
 simp only[h2,go_sem,seval];cases h3:decide (60<(fn.length:Int))
 case true=>
  simp only[h3,go_sem,seval];simp at h3;have:decide ((fn.length:Int)<=60)=false:=by simp;omega
  simp[d6,this]
 simp only[fL]at h1 h2;have hw:wr .i64 (n+fn.length)=n+fn.length:=by simp only[big]at hb;exact aO (by omega) (by omega)
 simp only[h3,hw,go_sem,seval];cases h4:decide (n+(fn.length:Int)=0)
 case true=>simp only[h4,go_sem,seval];simp[d6,h4]
 simp only[h4,go_sem,seval];have hspec:d6 fn n=fS n fn:=by
  simp only[fL]at h3;have e1:decide (0<=n)=true:=by simp;omega
  have e2:decide (n<=20)=true:=by simp;omega
  have e3:decide ((fn.length:Int)<=60)=true:=by simp;omega
  simp[d6,h4,e1,e2,e3]
 rw[hspec];refine eO fn (λd e=>eV e (some 27) (.int .i64 d.length)) (λd r hp=>fS n fn=fS (n+d.length) r) rfl ?_ ?_ ?_;simp;intro hp hI;simp only[RT,RS,go_sem,seval];rw[hI];rfl;intro d x r hp hes hI;subst hes;have hw:wr .i64 (n+d.length)=n+d.length:=by simp only[big,bX,List.length_cons]at hb;exact aO (by omega) (by omega)
 simp only[RT,RS,go_sem,seval];rw[hw];refine aB (h111 x _) (Wk ?_);cases hx:jK x (n+d.length);refine Wk ?_;rw[hI];simp[fS,hx];simp only[aW hb,go_sem,seval];rw[hI];simp[fS,hx,Int.add_assoc]
theorem XJ(hf:pg.fs 206=some nN)(p:aC):Ret pg 206 [p.av,.bool false,.bool true,.bool false,.bool true,.bool true,.bool false] (.bool (fC p false true false true true false)):=by
 refine Ret.ofX hf ?_;unfold nN
 repeat' (first|simp only[*,go_sem,seval]|refine aR (λ_=>?_) (λ_=>?_)|refine aU (λ_=>?_) (λ_=>?_)|refine aQ ?_)
 all_goals (simp_all [fC])
theorem TQ(hf:pg.fs 206=some nN)(p:aC):Ret pg 206 [p.av,.bool true,.bool false,.bool false,.bool false,.bool false,.bool false] (.bool (fC p true false false false false false)):=by
 refine Ret.ofX hf ?_;unfold nN
 repeat' (first|simp only[*,go_sem,seval]|refine aR (λ_=>?_) (λ_=>?_)|refine aU (λ_=>?_) (λ_=>?_)|refine aQ ?_)
 all_goals (simp_all [fC])
theorem aBM(hf:pg.fs 206=some nN)(p:aC):Ret pg 206 [p.av,.bool false,.bool false,.bool false,.bool true,.bool false,.bool false] (.bool (fC p false false false true false false)):=by
 refine Ret.ofX hf ?_;unfold nN
 repeat' (first|simp only[*,go_sem,seval]|refine aR (λ_=>?_) (λ_=>?_)|refine aU (λ_=>?_) (λ_=>?_)|refine aQ ?_)
 all_goals (simp_all [fC])
theorem aBL(hf:pg.fs 206=some nN)(p:aC):Ret pg 206 [p.av,.bool false,.bool false,.bool true,.bool true,.bool false,.bool true] (.bool (fC p false false true true false true)):=by
 refine Ret.ofX hf ?_;unfold nN
 repeat' (first|simp only[*,go_sem,seval]|refine aR (λ_=>?_) (λ_=>?_)|refine aU (λ_=>?_) (λ_=>?_)|refine aQ ?_)
 all_goals (simp_all [fC])
theorem XK(hf:pg.fs 206=some nN)(p:aC):Ret pg 206 [p.av,.bool false,.bool false,.bool false,.bool false,.bool false,.bool true] (.bool (fC p false false false false false true)):=by
 refine Ret.ofX hf ?_;unfold nN
 repeat' (first|simp only[*,go_sem,seval]|refine aR (λ_=>?_) (λ_=>?_)|refine aU (λ_=>?_) (λ_=>?_)|refine aQ ?_)
 all_goals (simp_all [fC])
theorem aEg(hf:pg.fs 206=some nN)(p:aC):Ret pg 206 [p.av,.bool false,.bool false,.bool false,.bool false,.bool false,.bool false] (.bool (fC p false false false false false false)):=by
 refine Ret.ofX hf ?_;unfold nN
 repeat' (first|simp only[*,go_sem,seval]|refine aR (λ_=>?_) (λ_=>?_)|refine aU (λ_=>?_) (λ_=>?_)|refine aQ ?_)
 all_goals (simp_all [fC])
theorem c207(hf:pg.fs 207=some HJ)(h206:pg.fs 206=some nN)(p:aC)(hp:p.kids.length<=big)(v:Int) :
  Ret pg 207 [p.av,.int .i64 v] (.bool (wL p v)):=by
 have h6:=XJ h206 p;rw[aC.avc]at h6;refine Ret.ofX hf ?_;unfold HJ;clear h206
 repeat' (first|simp only[*,go_sem,seval]|refine aR (λ_=>?_) (λ_=>?_)|refine aU (λ_=>?_) (λ_=>?_)|(refine aB h6 ?_)|refine aQ ?_)
 all_goals (clear h6)
 all_goals (simp_all [wL])
 all_goals (try omega)
end
end
section
mutual
theorem aC.ind'{P:aC->Prop}(h:∀p:aC,(∀q∈p.kids,P q)->P p):∀p,P p
 |.mk op num value name at_ dyn check fn knl kids kcl=>h _ (aC.inds h kids)
theorem aC.inds{P:aC->Prop}(h:∀p:aC,(∀q∈p.kids,P q)->P p):∀l:List aC,∀q∈l,P q
 |[]=>by simp
 |x::r=>List.forall_mem_cons.2 ⟨aC.ind' h x,aC.inds h r⟩
end
mutual
def rW:aC->Int
 |.mk _ _ _ _ _ _ _ _ _ kids _=>o8 1 kids
def o8(a:Int):List aC->Int
 |[]=>a
 |p::r=>o8 (wr .i64 (a+rW p)) r
end
theorem GH(p:aC):rW p=o8 1 p.kids:=by cases p;rw[rW];rfl
theorem tY:∀(d:List aC)(a:Int)(x:aC),o8 a (d++[x])=wr .i64 (o8 a d+rW x)
 |[],a,x=>by simp[o8]
 |y::d,a,x=>by simp only[List.cons_append,o8];exact tY d _ x
section
variable{pg:Pg}
theorem c146(hf:pg.fs 146=some HR):∀p:aC,p.ok->Ret pg 146 [p.av] (.int .i64 (rW p)):=by refine aC.ind' λp ih hp=>?_;obtain⟨hb,hk⟩:=(aC.ok_iff p).1 hp;refine Ret.ofX hf ?_;unfold HR;refine Wk ?_;refine eO p.kids (λd e=>eV (eV e (some 9) (.int .i64 d.length)) (some 3) (.int .i64 (o8 1 d))) (λd r hp=>True) (by simp only[o8];rfl) trivial ?_ ?_;rintro hp -;simp only[KW,KV,go_sem,seval];exact(GH p).symm;rintro d x r hp hes -;have hx:=ih x (by rw[hes];simp) (hk x (by rw[hes];simp));rw[hes]at hb;rw[hes];rw[aC.avc]at hx;simp only[KW,KV,go_sem,seval];refine aB (hx) ?_;simp only[aW hb,tY,go_sem,seval]
theorem c209(hf:pg.fs 209=some EX)(n:Nat)(h0:0<n)(hb:n<=1073741824):bE pg 209 [.sl true [] true,.int .i64 n] (nP 1 false []):=by
 refine bE.ofX hf ?_;have e1:decide ((n:Int)<0)=false:=by simp
 have e2:decide ((0:Int)<n)=true:=by simp;omega
 have e3:wr .i64 (n:Int)=n:=aO (by omega) (by omega);have e4:wr .i64 (0:Int)=0:=rfl;unfold EX;simp only[e1,iZ,jL,Int.sub_zero,Int.sub_self,e3,e4,e2,Option.getD_none,go_sem,seval]
 have hz:XO pg 0 (.apz 1 false 16 [.str []]) 1 [] [.sl true [] true,.int .i64 (n:Int)]=λQ _=>Q (.rf 1 0 0 n n) (.pat [1] [⟨1,0,.blk (List.replicate n [.str []]).flatten 1 false false false⟩]):=by
  funext Q t;have hn:n≠0:=by omega
  show WO pg 0 _ 1 [] _ Q=_;rw[eS rfl];have ha:cH [AV.str []]=true:=rfl;have hb':(n:Int)<=1073741824:=by omega
  simp[P8,aEH,hb,hb',ha,mD,hn,P4,bV,Hp.next,UP]
 rw[hz];simp only[iZ,jL,Option.getD_none,Option.getD_some,go_sem,seval];simp only[XV,P4,Option.getD_none,Option.getD_some,Option.isNone_none,Bool.or_true,Int.toNat_zero,Nat.sub_zero];rw[if_pos (by simp)];refine Wk ?_;simp only[nZ,List.drop_zero,conv,depth,eK,cF,bD,go_sem,seval];exact⟨_,by simp,.inr rfl⟩
theorem El.strs(l:List Str):∀x∈l.map Str.av,El 1 false x:=by intro x hx;simp only[List.mem_map]at hx;obtain⟨y,_,rfl⟩:=hx;exact⟨rfl,rfl,rfl⟩
theorem c184(hf:pg.fs 184=some HL)(h209:pg.fs 209=some EX)(nl cl:Bool)(vars:List Str)(s:Str)(hb:vars.length<=big) :
  bE pg 184 [.sl false [.sl nl (vars.map Str.av) cl,.sl false [.str s.bs] true] true] (nP 1 false ((vars++[s]).map Str.av)):=by
 refine bE.ofX hf ?_;simp only[big]at hb;have e1:wr .i64 (vars.length:Int)=vars.length:=aO (by omega) (by omega);have e2:wr .i64 ((vars.length:Int)+1)=((vars.length+1:Nat):Int):=by rw[aO (by omega) (by omega)];omega
 have e3:decide ((vars.length:Int)<0)=false:=by simp
 have e4:decide ((((vars.length+1:Nat):Int))<0)=false:=by simp;omega
 have e5:wr .i64 1=1:=rfl;have e6:wr .i64 2=2:=rfl;have e7:((1:Int).toNat)=1:=rfl;have e8:(((2:Nat):Int))=2:=rfl;have e13:(((1:Nat):Int))=1:=rfl;have e9:decide ((0:Int)<2)=true:=rfl;have e10:decide ((1:Int)<2)=true:=rfl;have e11:decide ((2:Int)<2)=false:=rfl;have e12:((0:Int)<=1)=True:=by simp
 unfold HL;refine Wk ?_;rw[oO];simp only[CN,CM,e1,e3,Int.zero_add,e5,e8,e9,go_sem,seval];rw[oO];simp only[CN,CM,e13,e2,e4,e5,e6,e7,e8,e10,e12,Int.reduceAdd,go_sem,seval];rw[oO];simp only[CN,CM,e8,e11,go_sem,seval];refine AO (c209 h209 (vars.length+1) (by omega) (by omega)) (by simp only[go_sem,seval]) (by simp) ?_;intro v rd pa ho hk hpa;refine Wk ?_;rw[oO];simp only[yL,yK,e8,e9,go_sem,seval];have hcat:∀v':AV,∀hp:Hp,Own hp 5 1 false v' (vars.map Str.av++[.str s.bs])->∃r,conv hp v'=some r/\nP 1 false ((vars++[s]).map Str.av) r:=by intro v' hp ho';have:=ho'.conv (by have:=El.strs (vars++[s]);simpa[Str.av] using this);simpa[Str.av] using this
 have hfin:∀(v':AV)(hp:Hp),(Own hp 1 1 false v' (vars.map Str.av)/\vars=[])\/Own hp 5 1 false v' (vars.map Str.av) ->
   ∀(Q:AV->Eff->Prop)(t:Tok Q),(∀v2 rd pa,Own (Eff.app hp (.pat rd pa)) 5 1 false v2 (vars.map Str.av++[.str s.bs])->Q v2 (.pat rd pa))->XO pg 0 (.app 1 false 16) 5 hp [v',.sl false [.str s.bs] true] Q t:=by
  intro v' hp hor Q t hq;have hs:∀x∈[AV.str s.bs],El 1 false x:=by intro x hx;simp at hx;subst hx;exact⟨rfl,rfl,rfl⟩
  rcases hor with ⟨ho',hv⟩|ho';exact LF (kb:=0) (s:=5) ho' (by decide) (El.strs vars) hs (by simp;omega) (by omega) (λh=>by simp at h) (λ_ v2 rd pa h _=>hq v2 rd pa h);exact eF (kb:=0) (s:=5) ho' (El.strs vars) hs (by simp;omega) (by omega) (λv2 rd pa h _ _=>hq v2 rd pa h)
 have hrest:∀(v':AV)(hp:Hp),(Own hp 1 1 false v' (vars.map Str.av)/\vars=[])\/Own hp 5 1 false v' (vars.map Str.av)->∀env:List AV,
   clear yK env=U4 v' (.sl false [.sl nl (vars.map Str.av) cl,.sl false [.str s.bs] true] true) (.int .i64 2) (.int .i64 1) ->
   XX pg 0 (.loop yL yK) ⟨env,hp⟩ (pJ 2 (nG (λst'=>XX pg 0 ((C.reg [⟨some 35,.mov,[.t 6],none,0,0⟩,⟨some 2,.mov,[.t 35],none,0,0⟩] false).seq C.ret) st' (aAn [Sum.inl 2] (nP 1 false ((vars++[s]).map Str.av))) ⟨⟩) (aAn [Sum.inl 2] (nP 1 false ((vars++[s]).map Str.av))))) ⟨⟩:=by
  intro v' hp hor env henv;rw[oO,henv];simp only[yL,U4,e8,e10,e7,e12,go_sem,seval];refine hfin v' hp hor _ _ ?_;intro v2 rd pa ho2;simp only[e6,e5,go_sem,seval];rw[oO];simp only[yL,yK,e8,e11,Int.reduceAdd,e6,go_sem,seval];exact hcat _ _ ho2
 refine LF (kb:=0) (s:=5) (k1:=1) ho (by decide) (by simp) (El.strs vars) (by simp;omega) (by omega) ?_ ?_;intro hx rd;have hv:vars=[]:=by simpa using hx
 simp only[e5,go_sem,seval];exact hrest v _ (.inl ⟨by rw[hv];exact ho,hv⟩) _ rfl;intro _ v' rd' pa' ho' _;simp only[e5,go_sem,seval];exact hrest v' _ (.inr (by simpa using ho')) _ rfl
end
end
section
def fW(p:aC)(vars:List Str)(values:Int):Bool:=
 if p.op.bs=[99,111,110,115,116] then fC p true false false false false false&&decide ((p.kids.length:Int)=0)&&nC p.num
 else if p.op.bs=[108,105,110,101,97,114] then fC p false false false true false false&&decide ((p.kids.length:Int)=0)&&decide ((p.at_.es.length:Int)=1)
 else if p.op.bs=[114,101,97,100] then wL p values
 else if p.op.bs=[105,102] then fC p false false false true false false&&decide ((p.kids.length:Int)=2)&&decide ((p.at_.es.length:Int)=1)
 else if p.op.bs=[114,101,100,117,99,101] then fC p false false true true false true&&decide ((p.kids.length:Int)=2)&&decide ((p.at_.es.length:Int)=1)&&gR p.name.bs && !lD vars p.name.bs&&d6 p.fn.es 2
 else if p.op.bs=[99,111,100,101] then fC p false false false false false true&&d6 p.fn.es p.kids.length
 else match jS p.op.bs with
  |none=>false
  |some q=>fC p false false false false false false&&decide ((p.kids.length:Int)=(q.params.length:Int))
section
variable{pg:Pg}
set_option maxHeartbeats 1000000 in
theorem c182(hname:∀s:Str,Ret pg 57 [.str s.bs] (.bool (gR s.bs)))(hf:pg.fs 182=some OA)(h206:pg.fs 206=some nN)(h148:pg.fs 148=some yQ)(h207:pg.fs 207=some HJ)(h98:pg.fs 98=some Q9)(h138:pg.fs 138=some BM)
  (h70:∀(nl cl:Bool)(fn:List aL),fn.length<=big->∀n:Int,Ret pg 70 [.sl nl (fn.map aL.av) cl,.int .i64 n] (.bool (d6 fn n))) (h140:∀op,bE pg 140 [.str op] (j2 op))
  (p:aC) (hk:p.kids.length<=big) (nl cl:Bool) (vars:List Str) (hb:vars.length<=big) (v:Int):Ret pg 182 [p.av,.sl nl (vars.map Str.av) cl,.int .i64 v] (.bool (fW p vars v)):=by
 have k1:=TQ h206 p;have k2:=aBM h206 p;have k3:=aBL h206 p;have k4:=XK h206 p;have k5:=aEg h206 p;have k6:=c207 h207 h206 p hk v;have k7:=aFJ h148 p.num;have k8:=hname p.name;have k9:Ret pg 98 [.sl nl (vars.map Str.av) cl,.str p.name.bs] (.bool (lD vars p.name.bs)):=c98 h98 h138 nl cl vars hb p.name.bs;have k10:=h70 p.fn.nl p.fn.cl p.fn.es p.fn.ok 2;have k11:=h70 p.fn.nl p.fn.cl p.fn.es p.fn.ok p.kids.length;rw[aC.avc]at k1 k2 k3 k4 k5 k6;refine Ret.ofX hf ?_;clear h206 h148 h207 h98 h138 h70 hname;unfold OA;refine Wk ?_;cases o1:decide (p.op.bs=[99,111,110,115,116])
 case true=>
  clear h140
  repeat' (first|simp only[*,go_sem,seval]|refine aR (λ_=>?_) (λ_=>?_)|refine aU (λ_=>?_) (λ_=>?_)|(refine aB k1 ?_)|(refine aB k7 ?_)|refine aQ ?_)
  all_goals (clear k1 k2 k3 k4 k5 k6 k7 k8 k9 k10 k11)
  all_goals (simp_all [fW])
 refine Wk ?_;cases o2:decide (p.op.bs=[108,105,110,101,97,114])
 case true=>
  clear h140
  repeat' (first|simp only[*,go_sem,seval]|refine aR (λ_=>?_) (λ_=>?_)|refine aU (λ_=>?_) (λ_=>?_)|(refine aB k2 ?_)|refine aQ ?_)
  all_goals (clear k1 k2 k3 k4 k5 k6 k7 k8 k9 k10 k11)
  all_goals (simp_all [fW])
 refine Wk ?_;cases o3:decide (p.op.bs=[114,101,97,100])
 case true=>
  clear h140
  repeat' (first|simp only[*,go_sem,seval]|refine aR (λ_=>?_) (λ_=>?_)|refine aU (λ_=>?_) (λ_=>?_)|(refine aB k6 ?_)|refine aQ ?_)
  all_goals (clear k1 k2 k3 k4 k5 k6 k7 k8 k9 k10 k11)
  all_goals (simp_all [fW])
 refine Wk ?_;cases o4:decide (p.op.bs=[105,102])
 case true=>
  clear h140
  repeat' (first|simp only[*,go_sem,seval]|refine aR (λ_=>?_) (λ_=>?_)|refine aU (λ_=>?_) (λ_=>?_)|(refine aB k2 ?_)|refine aQ ?_)
  all_goals (clear k1 k2 k3 k4 k5 k6 k7 k8 k9 k10 k11)
  all_goals (simp_all [fW])
 refine Wk ?_;cases o5:decide (p.op.bs=[114,101,100,117,99,101])
 case true=>
  clear h140
  repeat' (first|simp only[*,go_sem,seval]|refine aR (λ_=>?_) (λ_=>?_)|refine aU (λ_=>?_) (λ_=>?_)|(refine aB k3 ?_)|(refine aB k8 ?_)|(refine aB k9 ?_)|(refine aB k10 ?_)|refine aQ ?_)
  all_goals (clear k1 k2 k3 k4 k5 k6 k7 k8 k9 k10 k11)
  all_goals (simp_all [fW])
 refine Wk ?_;cases o6:decide (p.op.bs=[99,111,100,101])
 case true=>
  clear h140
  repeat' (first|simp only[*,go_sem,seval]|refine aR (λ_=>?_) (λ_=>?_)|refine aU (λ_=>?_) (λ_=>?_)|(refine aB k4 ?_)|(refine aB k11 ?_)|refine aQ ?_)
  all_goals (clear k1 k2 k3 k4 k5 k6 k7 k8 k9 k10 k11)
  all_goals (simp_all [fW])
 obtain⟨r,hr,hP⟩:=h140 p.op.bs;clear h140
 have hspec:fW p vars v=match jS p.op.bs with
  |none=>false
  |some q=>fC p false false false false false false&&decide ((p.kids.length:Int)=(q.params.length:Int)):=by
  simp at o1 o2 o3 o4 o5 o6;simp[fW,o1,o2,o3,o4,o5,o6]
 generalize fW p vars v=res at hspec ⊢;obtain⟨nl',cl',ps,rs,ok,rfl,hres⟩:∃nl cl,∃ps:List (List UInt8),∃rs ok,r = .tup [.sl nl (ps.map .str) cl,.str rs,.bool ok]/\res=(ok&&fC p false false false false false false&&decide ((p.kids.length:Int)=(ps.length:Int))):=by
  unfold j2 at hP;cases hp:jS p.op.bs with
  |none=>rw[hp]at hP hspec;exact⟨_,_,[],_,_,hP,by simp[hspec]⟩
  |some q=>rw[hp]at hP hspec;obtain⟨nl,cl,hP⟩:=hP;exact⟨_,_,q.params,_,_,hP,by simp[hspec]⟩
 clear hP hspec;have htr:treeL (ps.map AV.str)=true:=bJ (f:=AV.str) (λ_=>rfl) ps
 repeat' (first|simp only[*,go_sem,seval]|refine aR (λ_=>?_) (λ_=>?_)|refine aU (λ_=>?_) (λ_=>?_)|(refine aB hr ?_)|(refine aB k5 ?_)|refine aQ ?_)
 all_goals (clear k1 k2 k3 k4 k5 k6 k7 k8 k9 k10 k11 hr)
 all_goals (simp_all)
end
end
end Go.Tev
