import Derived.Test.YtilkdbbkkcnocaaGreatDoorSAP
import Derived.Test.YtilkdbbkkcnocaaGreatDoorSAI
import Derived.Test.YtilkdbbkkcnocaaGreatDoorSAM
set_option linter.all false
namespace Go.Tev
section
structure El(esz:Nat)(ag:Bool)(v:AV):Prop where
 fits:v.fits esz ag=true
 one:bC v.cells=true
 tree:v.tree=true
theorem El.len{esz:Nat}{ag:Bool}{v:AV}(h:El esz ag v):v.cells.length=esz:=by have:=h.fits;cases v<;>simp[AV.fits,AV.cells]at this ⊢ <;> first|exact this.2|exact this.2.symm|omega
theorem El.isAgg{esz:Nat}{ag:Bool}{v:AV}(h:El esz ag v):v.isAgg=ag:=by have:=h.fits;cases v<;>cases ag<;>simp[AV.fits,AV.isAgg]at this ⊢
theorem bU{esz:Nat}{ag:Bool}:∀{es:List AV},(∀x∈es,El esz ag x)->∃cs,aP esz ag es=some cs/\cs.length=es.length*esz/\bC cs=true/\∀tl,jS esz ag es.length (cs++tl)=some es
 |[],_=>⟨[],rfl,by simp,rfl,λ_=>rfl⟩
 |x::r,h=>by
  obtain⟨cs,h1,h2,h3,h4⟩:=bU (λy hy=>h y (bT _ hy));have hx:=h x (by simp);have hl:=hx.len;refine⟨x.cells++cs,?_,?_,?_,?_⟩;simp[aP,hx.fits,hx.one,h1];simp[h2,hl,Nat.add_mul];omega;have happ:∀(p q:List AV),bC p=true->bC q=true->bC (p++q)=true:=by
   intro p q hp hq
   induction p with
   |nil=>exact hq
   |cons y s ih=>simp only[bC,aD,List.cons_append]at hp ⊢;exact⟨hp.1,ih hp.2⟩
  exact happ _ _ hx.one h3;intro tl;have hag:=hx.isAgg;cases ag with
  |true=>
   obtain⟨c,rfl⟩:∃c,x = .agg c:=by cases x<;>simp[AV.isAgg]at hag;exact⟨_,rfl⟩
   simp only[AV.cells]at hl;simp only[List.length_cons,jS,AV.cells,if_true,List.append_assoc];rw[if_neg (by simp[hl])];rw[<-hl];simp only[List.drop_left,List.take_left];rw[hl,h4 tl];rfl
  |false=>
   have hc:x.cells=[x]:=by cases x<;>simp[AV.isAgg]at hag<;>rfl
   have he:esz=1:=by rw[hc]at hl;simpa using hl.symm
   subst he;simp only[List.length_cons,jS,hc,Bool.false_eq_true,if_false,List.cons_append,List.nil_append,hag,h4 tl];rfl
theorem HZ{h:Hp}{esz:Nat}{ag:Bool}{es:List AV}(he:∀x∈es,El esz ag x):mapS (snap depth h) es=some (es,[]):=by
 refine dA 63 h ?_
 induction es with
 |nil=>rfl
 |cons x r ih=>simp only[treeL,aD];exact⟨(he x (by simp)).tree,ih (λy hy=>he y (bT _ hy))⟩
def Own(h:Hp)(k0 esz:Nat)(ag:Bool)(v:AV)(es:List AV):Prop:=
 (es=[]/\∃nl cl,v = .sl nl [] cl/\(nl||cl)=true) \/
 (∃e cs,v = .rf k0 e 0 es.length es.length/\h.get k0=some (e,.blk cs esz ag false false)/\aP esz ag es=some cs)
theorem Own.mono{h h':Hp}{k0 esz:Nat}{ag:Bool}{v:AV}{es:List AV}(o:Own h k0 esz ag v es)(hh:h'.get k0=h.get k0):Own h' k0 esz ag v es:=by
 rcases o with o|⟨e,cs,h2,h3,h4⟩
 exact .inl o;exact .inr ⟨e,cs,h2,by rw[hh];exact h3,h4⟩
theorem Own.nil(h:Hp)(k0 esz:Nat)(ag:Bool)(nl cl:Bool)(hc:(nl||cl)=true):Own h k0 esz ag (.sl nl [] cl) []:=.inl ⟨rfl,nl,cl,rfl,hc⟩
def pH(esz:Nat)(ag:Bool)(es:List AV)(r:AV):Prop:=
 (es=[]/\∃nl cl,r = .sl nl [] cl/\(nl||cl)=true)\/r = .os es esz ag
theorem Own.conv{h:Hp}{k0 esz:Nat}{ag:Bool}{v:AV}{es:List AV}(o:Own h k0 esz ag v es)(he:∀x∈es,El esz ag x):∃r,Tev.conv h v=some r/\pH esz ag es r:=by
 rcases o with ⟨rfl,nl,cl,rfl,hc⟩|⟨e,cs,rfl,hg,hu⟩
 exact⟨.sl nl [] cl,vO rfl,.inl ⟨rfl,nl,cl,rfl,hc⟩⟩;obtain⟨cs',h1,h2,h3,h4⟩:=bU he;rw[hu]at h1;cases h1;have h5:=h4 [];rw[List.append_nil]at h5;refine⟨.os es esz ag,?_,.inr rfl⟩;simp[Tev.conv,hg,h5,HZ he]
theorem eV{esz:Nat}{ag:Bool}:∀{a b:List AV}{c d:List AV},aP esz ag a=some c->aP esz ag b=some d->aP esz ag (a++b)=some (c++d)
 |[],b,c,d,h1,h2=>by cases h1;exact h2
 |x::r,b,c,d,h1,h2=>by simp only[aP]at h1;split at h1;rename_i hc;simp only[lH]at h1;obtain⟨c',h3,rfl⟩:=h1;simp[aP,hc,eV h3 h2];cases h1
section
variable{pg:Pg}{kb:Nat}
theorem kW{esz bytes s:Nat}{ag:Bool}{h:Hp}{v:AV}{es xs:List AV}{nl cl:Bool}{Q:AV->Eff->Prop}{t:Tok Q}(o:Own h (kb+s) esz ag v es)(he:∀x∈es,El esz ag x)(hx:∀x∈xs,El esz ag x)
  (hl:es.length+xs.length<=1073741824) (hb:bytes<=65536)
  (q:∀v' rd pa,Own (Eff.app h (.pat rd pa)) (kb+s) esz ag v' (es++xs)->(∀k,k≠kb+s->(Eff.app h (.pat rd pa)).get k=h.get k)->(∀x∈pa,x.k=kb+s)->Q v' (.pat rd pa)) :
  XO pg kb (.app esz ag bytes) s h [v,.sl nl xs cl] Q t:=by
 rw[qK];obtain⟨ds,d1,d2,d3,_⟩:=bU hx;simp only[o7,bM,d1,Option.map_some];by_cases hxs:xs=[]
 subst hxs;cases d1;rcases o with ⟨rfl,nl',cl',rfl,hc⟩|⟨e,cs,rfl,hg,hu⟩
 simp only[lG,List.length_nil,if_true];exact q _ _ _ (.inl ⟨rfl,nl',cl',rfl,hc⟩) (λ_ _=>rfl) (by simp);obtain⟨cs',c1,c2,_,_⟩:=bU he;rw[hu]at c1;cases c1;simp only[lG,hg,List.length_nil,if_true,true_and,Nat.zero_add];rw[if_pos (by omega)];exact q _ _ _ (.inr ⟨e,cs,by simp,by simpa[Eff.app,aM] using hg,by simpa using hu⟩) (λ_ _=>rfl) (by simp);have hn:xs.length≠0:=by simpa using hxs
 rcases o with ⟨rfl,nl',cl',rfl,hc⟩|⟨e,cs,rfl,hg,hu⟩
 simp only[lG,hn,if_false,hc,List.length_nil,Nat.zero_add,Bool.true_and];have hlx:xs.length<=1073741824:=by simpa using hl
 simp only[hlx,hb,decide_true,Bool.and_self,if_true,aP,List.nil_append];refine q _ _ _ (.inr ⟨_,ds,rfl,?_,by simpa using d1⟩) ?_ (by simp);rw[lV,aB,if_pos rfl];intro k hk;rw[lV,aB,if_neg (Ne.symm hk)];obtain⟨cs',c1,c2,_,_⟩:=bU he;rw[hu]at c1;cases c1;have h1:¬(es.length+xs.length<=es.length):=by omega
 simp only[lG,hg,hn,if_false,true_and,Nat.zero_add];rw[if_pos (by omega)];simp only[h1,if_false,hl,hb,decide_true,Bool.true_and,beq_self_eq_true,Bool.not_true,Bool.and_false,Bool.false_eq_true,Bool.not_false,if_true];refine q _ _ _ (.inr ⟨e+1,cs++ds,by simp,?_,eV hu d1⟩) ?_ (by simp);rw[lV,aB,if_pos rfl];simp[<-c2];intro k hk;rw[lV,aB,if_neg (Ne.symm hk)]
theorem HM{esz bytes s k1:Nat}{ag:Bool}{h:Hp}{v:AV}{es xs:List AV}{nl cl:Bool}{Q:AV->Eff->Prop}{t:Tok Q}(o:Own h k1 esz ag v es)(hk1:k1≠kb+s)(he:∀x∈es,El esz ag x)(hx:∀x∈xs,El esz ag x)
  (hl:es.length+xs.length<=1073741824) (hb:bytes<=65536)
  (q1:xs=[]->∀rd,Q v (.pat rd []))
  (q2:xs≠[]->∀v' rd pa,Own (Eff.app h (.pat rd pa)) (kb+s) esz ag v' (es++xs)->(∀k,k≠kb+s->k≠k1->(Eff.app h (.pat rd pa)).get k=h.get k)->Q v' (.pat rd pa)) :
  XO pg kb (.app esz ag bytes) s h [v,.sl nl xs cl] Q t:=by
 rw[qK];obtain⟨ds,d1,d2,d3,_⟩:=bU hx;simp only[o7,bM,d1,Option.map_some];by_cases hxs:xs=[]
 subst hxs;cases d1;rcases o with ⟨rfl,nl',cl',rfl,hc⟩|⟨e,cs,rfl,hg,hu⟩
 simp only[lG,List.length_nil,if_true];exact q1 rfl _;obtain⟨cs',c1,c2,_,_⟩:=bU he;rw[hu]at c1;cases c1;simp only[lG,hg,List.length_nil,if_true,true_and,Nat.zero_add];rw[if_pos (by omega)];exact q1 rfl _;have hn:xs.length≠0:=by simpa using hxs
 rcases o with ⟨rfl,nl',cl',rfl,hc⟩|⟨e,cs,rfl,hg,hu⟩
 simp only[lG,hn,if_false,hc,List.length_nil,Nat.zero_add,Bool.true_and];have hlx:xs.length<=1073741824:=by simpa using hl
 simp only[hlx,hb,decide_true,Bool.and_self,if_true,aP,List.nil_append];refine q2 hxs _ _ _ (.inr ⟨_,ds,rfl,?_,by simpa using d1⟩) ?_;rw[lV,aB,if_pos rfl];intro k hk _;rw[lV,aB,if_neg (Ne.symm hk)];obtain⟨cs',c1,c2,_,_⟩:=bU he;rw[hu]at c1;cases c1;have h1:¬(es.length+xs.length<=es.length):=by omega
 have h2:(k1==kb+s)=false:=by simpa using hk1
 simp only[lG,hg,hn,if_false,true_and,Nat.zero_add];rw[if_pos (by omega)];simp only[h1,if_false,hl,hb,decide_true,Bool.true_and,h2,Bool.not_false,if_true,Bool.false_eq_true];refine q2 hxs _ _ _ (.inr ⟨h.next (kb+s),cs++ds,by simp,?_,eV hu d1⟩) ?_;rw[HJ,aB,if_pos rfl];simp[<-c2];intro k hk hk2;rw[HJ,aB,if_neg (Ne.symm hk),aB,if_neg (Ne.symm hk2)]
theorem EH{f s esz:Nat}{ag:Bool}{h:Hp}{vs es:List AV}{Q:AV->Eff->Prop}{t:Tok Q}(hr:bV pg f vs (pH esz ag es))(hm:treeL vs=true)
  (q:∀nl cl,(nl=true->es=[])->Q (.sl nl es cl) (.pat [kb+s] [])):XO pg kb (.call f false false) s h vs Q t:=by
 obtain⟨r,hr,⟨rfl,nl,cl,rfl,hc⟩|rfl⟩:=hr;exact gO hr hm rfl (q nl cl (λ_=>rfl));refine cX hr (dA 63 h hm) (v:=.sl false es false) (pa:=[]) rfl ?_;have:(if (AV.os es esz ag).flat then ([]:List Ent) else aI h [])++[]=[]:=by split<;>rfl
 rw[this];exact q false false (λh=>by cases h)
theorem HL{f s esz:Nat}{ag:Bool}{h:Hp}{vs es:List AV}{Q:AV->Eff->Prop}{t:Tok Q}(hr:bV pg f vs (pH esz ag es))(hm:treeL vs=true)(he:∀x∈es,El esz ag x)
  (q:∀v rd pa,Own (Eff.app h (.pat rd pa)) (kb+s) esz ag v es->(∀k,k≠kb+s->(Eff.app h (.pat rd pa)).get k=h.get k)->(∀x∈pa,x.k=kb+s)->Q v (.pat rd pa)):XO pg kb (.call f true false) s h vs Q t:=by
 obtain⟨r,hr,⟨rfl,nl,cl,rfl,hc⟩|rfl⟩:=hr;exact gO hr hm rfl (q _ _ _ (Own.nil _ _ _ _ _ _ hc) (λ_ _=>rfl) (by simp));obtain⟨cs,c1,c2,_,_⟩:=bU he;refine cX hr (dA 63 h hm) (v:=.rf (kb+s) (h.next (kb+s)) 0 es.length es.length) (pa:=[⟨kb+s,h.next (kb+s),.blk cs esz ag false false⟩]) (by simp[hU,c1]) ?_;have:(if (AV.os es esz ag).flat then ([]:List Ent) else aI h [])=[]:=by split<;>rfl
 rw[this,List.nil_append];refine q _ _ _ (.inr ⟨_,cs,rfl,?_,c1⟩) ?_ (by simp);rw[lV,aB,if_pos rfl];intro k hk;rw[lV,aB,if_neg (Ne.symm hk)]
theorem QD{f s esz:Nat}{ag:Bool}{h:Hp}{vs es:List AV}{Q:AV->Eff->Prop}{t:Tok Q}(hr:bV pg f vs (pH esz ag es))(hm:treeL vs=true)(he:∀x∈es,El esz ag x)
  (q1:es=[]->∀nl cl,(nl||cl)=true->Q (.sl nl [] cl) (.pat [kb+s] []))
  (q2:∀cs,aP esz ag es=some cs->jS esz ag es.length cs=some es->Q (.rf (kb+s) (h.next (kb+s)) 0 es.length es.length) (.pat [kb+s] [⟨kb+s,h.next (kb+s),.blk cs esz ag false false⟩])):XO pg kb (.call f true false) s h vs Q t:=by
 obtain⟨r,hr,⟨rfl,nl,cl,rfl,hc⟩|rfl⟩:=hr;exact gO hr hm rfl (q1 rfl nl cl hc);obtain⟨cs,c1,c2,_,c4⟩:=bU he;refine cX hr (dA 63 h hm) (v:=.rf (kb+s) (h.next (kb+s)) 0 es.length es.length) (pa:=[⟨kb+s,h.next (kb+s),.blk cs esz ag false false⟩]) (by simp[hU,c1]) ?_;have:(if (AV.os es esz ag).flat then ([]:List Ent) else aI h [])=[]:=by split<;>rfl
 rw[this,List.nil_append];exact q2 cs c1 (by simpa using c4 [])
end
end
section
def cT(c:UInt8):Bool:=decide (48<=c.toNat)&&decide (c.toNat<=57)
def eZ(c:UInt8):Bool:=decide (97<=c.toNat)&&decide (c.toNat<=122)
def fT(s:List UInt8):Bool:=
 match s with
 |[]=>false
 | c::t=>decide (s.length<=30)&&(if c=95 then decide (2<=s.length)&&decide (s.length<=10) && !decide (t.head?=some 48)&&t.all cT else eZ c&&t.all (λx=>eZ x||cT x))
def JS(s:List UInt8):Bool:=
 match s with
 |[]=>false
 |c::t=>decide (s.length<=30)&&(decide (65<=c.toNat)&&decide (c.toNat<=90))&&t.all cT
def UK(i:Nat):List UInt8:=[105,UInt8.ofNat (48+i)]
def kD(n:Int):Bool:=decide (-1000000<=n)&&decide (n<=1000000)
def lN(p:List aR):List aR->Bool
 |[]=>true
 |x::r=>fT x.v.bs && !decide (x.c=0)&&kD x.c&&(match p.getLast? with|none=>true|some q=>Op.bytesLess q.v.bs x.v.bs)&&lN (p++[x]) r
def eT(l:Lin):Bool:=lN [] l.ts.es&&kD l.c&&decide ((l.ts.es.length:Int)<=12)
section
variable{pg:Pg}
theorem c89(hf:pg.fs 89=some R5)(n:Int):Ret pg 89 [.int .i64 n] (.bool (kD n)):=by
 refine Ret.ofX hf ?_;unfold R5
 repeat' (first|simp only[*,go_sem,seval]|refine bW (λ_=>?_) (λ_=>?_)|refine bZ (λ_=>?_) (λ_=>?_)|refine cN ?_)
 all_goals simp[kD, *]
theorem c126(hf:pg.fs 126=some w7)(s p:List UInt8):Ret pg 126 [.str s,.str p] (.bool (decide (p.length<=s.length)&&decide (s.take p.length=p))):=by
 refine Ret.ofX hf ?_;unfold w7;refine Wk ?_;cases h:decide (p.length<=s.length);have h':decide ((p.length:Int)<=s.length)=false:=by simp at h ⊢;omega
 simp only[h',go_sem,seval];have h':decide ((p.length:Int)<=s.length)=true:=by simp at h ⊢;omega
 simp only[h',go_sem,seval];have h2:(0:Int)<=p.length/\(p.length:Int)<=s.length:=by simp at h;omega
 simp[jG,h2,val,XV,IY];simp only[h',h2,go_sem,seval]
theorem c91(hf:pg.fs 91=some M5)(h126:pg.fs 126=some w7)(s p:List UInt8):Ret pg 91 [.str s,.str p] (.bool (decide (p.length<=s.length)&&decide (s.take p.length=p))):=by refine Ret.ofX hf ?_;unfold M5;refine Wk ?_;refine aC (c126 h126 s p) ?_;simp only[go_sem,seval]
theorem c51(hf:pg.fs 51=some WB)(h89:pg.fs 89=some R5)(h57:∀s:Str,Ret pg 57 [.str s.bs] (.bool (fT s.bs)))(l:Lin):Ret pg 51 [l.av] (.bool (eT l)):=by
 refine Ret.ofX hf ?_;unfold WB;refine Wk ?_
 refine aQ l.ts.es (λd r env hp=>hp.get 1=some (0,.blk [.int .i64 l.c,.sl l.ts.nl (l.ts.es.map aR.av) l.ts.cl] 2 true true false) /\
  env=NI (.pt 1 0 0) (.sl l.ts.nl (l.ts.es.map aR.av) l.ts.cl) (.int .i64 l.ts.es.length) (.int .i64 d.length)/\eT l=(lN d r&&kD l.c&&decide ((l.ts.es.length:Int)<=12))) ?_ ?_ ?_
 exact⟨rfl,rfl,rfl⟩;rintro env hp ⟨h1,rfl,hq⟩;unfold NH NI;simp only[Int.lt_irrefl,h1,go_sem,seval];refine aC (c89 h89 _) ?_;simp only[h1,go_sem,seval];simp only[lN]at hq;cases h9:kD l.c;refine Wk ?_;simp[hq,h9];simp only[h1,go_sem,seval];simp[hq,h9];rintro d x r env hp hes ⟨h1,rfl,hq⟩;have hb:=l.ts.ok;rw[hes]at hb h1 hq ⊢;unfold NH NI;refine Wk ?_;refine aC (h57 x.v) ?_;simp only[lN]at hq;refine Wk ?_;cases hn:fT x.v.bs;refine Wk ?_;refine cN ?_;simp[hq,hn];cases hc:decide (x.c=0)
 case true=>simp only[hc,go_sem,seval];refine cN ?_;simp[hq,hc]
 simp only[hc,go_sem,seval];refine aC (c89 h89 x.c) (Wk ?_);cases h9:kD x.c;refine Wk ?_;refine cN ?_;simp[hq,h9];cases hd:decide (0<(d.length:Int));simp only[hd,cQ hb,go_sem,seval];refine And.intro (by kernel_rfl) ⟨h1,rfl,?_⟩;have:d=[]:=by cases d<;>simp_all<;>omega
 subst this;simp[hq,h9,hc,hn];obtain⟨d',y,rfl⟩:∃d' y,d=d'++[y]:=by
  rcases LQ d with rfl|⟨d',y,h⟩
  simp at hd;exact⟨d',y,by simpa using h⟩
 have hy:(d'++[y]++x::r)[(wr .i64 (((d'++[y]).length:Int)-1)).toNat]?=some y:=by
  have:wr .i64 (((d'++[y]).length:Int)-1)=(d'.length:Int):=by simp only[cO,List.length_cons,List.length_nil,big]at *;rw[fZ (by omega) (by omega)];omega
  rw[this];simp
 have hy0:(0<=wr .i64 (((d'++[y]).length:Int)-1))=True:=by
  have:wr .i64 (((d'++[y]).length:Int)-1)=(d'.length:Int):=by simp only[cO,List.length_cons,List.length_nil,big]at *;rw[fZ (by omega) (by omega)];omega
  rw[this];simp
 simp only[hd,h1,hy,hy0,go_sem,seval];cases hl:Op.bytesLess y.v.bs x.v.bs;refine Wk ?_;refine cN ?_;simp[hq,hl];simp only[cQ hb,go_sem,seval];refine And.intro (by kernel_rfl) ⟨h1,rfl,?_⟩;simp[hq,h9,hc,hn,hl]
theorem El.str(s:List UInt8):El 1 false (.str s):=⟨rfl,rfl,rfl⟩
theorem El.int(n:Int):El 1 false (.int .i64 n):=⟨rfl,rfl,rfl⟩
theorem El.bool(b:Bool):El 1 false (.bool b):=⟨rfl,rfl,rfl⟩
theorem c96(hf:pg.fs 96=some R3)(l:Lin):bV pg 96 [l.av] (pH 1 false (l.ts.es.map λx => .str x.v.bs)):=by
 refine bV.ofX hf ?_;have hb:=l.ts.ok
 have hel:∀d:List aR,∀x∈d.map (λx:aR=>AV.str x.v.bs),El 1 false x:=by intro d x hx;simp only[List.mem_map]at hx;obtain⟨y,_,rfl⟩:=hx;exact El.str _
 unfold R3;refine Wk ?_;refine aQ l.ts.es (λd r env hp=>∃v,env=M4 v (.sl l.ts.nl (l.ts.es.map aR.av) l.ts.cl) (.int .i64 l.ts.es.length) (.int .i64 d.length)/\Own hp 9 1 false v (d.map λx => .str x.v.bs)) ?_ ?_ ?_;exact⟨_,rfl,Own.nil _ _ _ _ _ _ rfl⟩;rintro env hp ⟨v,rfl,ho⟩;simp only[M3,M4,go_sem,seval];exact ho.conv (hel _);rintro d x r env hp hes ⟨v,rfl,ho⟩;rw[hes]at hb ⊢;simp only[M3,M4,go_sem,seval];refine kW (kb:=0) (s:=9) (bytes:=16) (es:=d.map λx => .str x.v.bs) (ho.mono ?_) (hel _) (xs:=[.str x.v.bs]) (by intro y hy;simp at hy;subst hy;exact El.str _) ?_ (by decide) ?_;simp only[go_sem,seval];simp only[cO,List.length_cons,List.length_nil,cP,big]at *;omega;intro v' rd pa ho' hk hpa;simp only[cQ hb,go_sem,seval];exact⟨v',rfl,by simpa using ho'⟩
theorem c138(hf:pg.fs 138=some nB)(nl cl:Bool)(es:List Str)(hb:es.length<=big)(v:List UInt8) :
  bV pg 138 [.sl nl (es.map Str.av) cl,.str v] (λr=>∃i:Int,r = .int .i64 i/\decide (0<=i)=es.any (λs=>decide (v=s.bs))):=
 ZA (f:=138) (k:=.bin .eql) hf Str.av (λ_=>rfl) nl cl es hb (.str v) (λs=>decide (v=s.bs)) (by intro kb s h x Q t;simp only[go_sem,seval])
theorem c98(hf:pg.fs 98=some vS)(h138:pg.fs 138=some nB)(nl cl:Bool)(es:List Str)(hb:es.length<=big)(v:List UInt8) :
  Ret pg 98 [.sl nl (es.map Str.av) cl,.str v] (.bool (es.any (λs=>decide (v=s.bs)))):=
 xW (n:=138) hf (by simp only[go_sem,seval]) (c138 h138 nl cl es hb v)
def cJ(vars:List Str)(v:List UInt8):Bool:=vars.any (λs=>decide (v=s.bs))
def aY(ls:List Lin)(vars:List Str):Bool:=ls.all λl=>eT l&&l.ts.es.all λx=>cJ vars x.v.bs
theorem c97{f:Nat}(hf:pg.fs f=some V0)(h98:pg.fs 98=some vS)(h138:pg.fs 138=some nB)(nl cl:Bool)(es:List Str)(hb:es.length<=big)(v:List UInt8) :
  Ret pg f [.str v,.fp (.sl nl (es.map Str.av) cl)] (.bool (!cJ es v)):=by
 refine Ret.ofX hf ?_;unfold V0;refine Wk ?_;refine aC (c98 h98 h138 nl cl es hb v) (Wk ?_);rfl
theorem c137(hf:pg.fs 137=some D4)(nl cl:Bool)(es:List Str)(hb:es.length<=big)(g:Nat)(cs:List AV)(hcs:treeL cs=true)(p:Str->Bool)(hp:∀x∈es,Ret pg g (x.av::cs) (.bool (p x))) :
  bV pg 137 [.sl nl (es.map Str.av) cl,.fn g cs] (λr=>∃i:Int,r = .int .i64 i/\decide (0<=i)=es.any p):=
 FM (f:=137) (esz:=1) (ag:=false) hf Str.av (λ_=>rfl) (λ_=>rfl) nl cl es hb g cs hcs p hp
theorem c95(hf:pg.fs 95=some V4)(h137:pg.fs 137=some D4)(nl cl:Bool)(es:List Str)(hb:es.length<=big)(g:Nat)(cs:List AV)(hcs:treeL cs=true)(p:Str->Bool)(hp:∀x∈es,Ret pg g (x.av::cs) (.bool (p x))) :
  Ret pg 95 [.sl nl (es.map Str.av) cl,.fn g cs] (.bool (es.any p)):=
 xW (n:=137) hf (by simp only[treeL,tH,xL,hcs,Str.treeL,Bool.and_true]) (c137 h137 nl cl es hb g cs hcs p hp)
theorem TW{f g:Nat}(hf:pg.fs f=some (aCh g))(h51:∀l:Lin,Ret pg 51 [l.av] (.bool (eT l)))(h96:pg.fs 96=some R3)(h95:pg.fs 95=some V4)(h137:pg.fs 137=some D4)(h97:pg.fs g=some V0)(h98:pg.fs 98=some vS)(h138:pg.fs 138=some nB)
  (nl cl:Bool) (ls:List Lin) (hb:ls.length<=big) (nl' cl':Bool) (vars:List Str) (hb':vars.length<=big):Ret pg f [.sl nl (ls.map Lin.av) cl,.sl nl' (vars.map Str.av) cl'] (.bool (aY ls vars)):=by
 refine Ret.ofX hf ?_;unfold aCh;refine Wk ?_;refine eJ ls (λd e=>eH e (some 9) (.int .i64 d.length)) (λd r hp=>(∃fz,hp.get 1=some (0,.blk [.sl nl' (vars.map Str.av) cl'] 1 false true fz))/\aY ls vars=aY r vars) rfl ?_ ?_ ?_;exact⟨⟨_,rfl⟩,rfl⟩;rintro hp ⟨⟨fz,h1⟩,hI⟩;simp only[MA,L9,go_sem,seval];rw[hI];rfl;rintro d x r hp hes ⟨⟨fz,h1⟩,hI⟩;subst hes;simp only[MA,L9,go_sem,seval];refine aC (h51 x) (Wk ?_);cases hx:eT x;refine Wk ?_;rw[hI];simp[aY,hx];refine Wk ?_;refine EH (c96 h96 x) (by simp only[go_sem,seval]) ?_;intro nl2 cl2 hnl;refine Wk ?_;have hv:∀y∈x.ts.es.map (λc=>c.v),Ret pg g (y.av::[.fp (.sl nl' (vars.map Str.av) cl')]) (.bool (!cJ vars y.bs)):=λy _=>c97 h97 h98 h138 nl' cl' vars hb' y.bs;have h9:=c95 h95 h137 nl2 cl2 (x.ts.es.map λc=>c.v) (by have:=x.ts.ok;simpa using this) g [.fp (.sl nl' (vars.map Str.av) cl')] (by simp only[go_sem,seval]) (λy => !cJ vars y.bs) hv;have hm:List.map (λx=>AV.str x.v.bs) x.ts.es=List.map Str.av (x.ts.es.map λc=>c.v):=by simp[Str.av]
 rw[hm];refine cX (h9) (by simp only[ h1,depth,eN,bG,fR,go_sem,seval];rfl) (by first|rfl|simp only[hU]) (Wk ?_)
 have hany:(List.map (λc=>c.v) x.ts.es).any (λy => !cJ vars y.bs) = !(x.ts.es.all λc=>cJ vars c.v.bs):=by simp[List.any_map,List.not_all_eq_any_not];rfl
 rw[hany];cases hy:x.ts.es.all λc=>cJ vars c.v.bs;refine Wk ?_;rw[hI];simp[aY,hx,hy];simp only[h1,cQ hb,go_sem,seval];exact⟨⟨fz,rfl⟩,by simpa[aY,hx,hy] using hI⟩
def gW(x y:aR):Bool:=decide (x.v.bs=y.v.bs)&&decide (x.c=y.c)
def eU(a b:Lin):Bool:=decide (a.c=b.c)&&eqL gW a.ts.es b.ts.es
def lO(a b:cB):Bool:=decide (a.row.bs=b.row.bs)&&eqL eU a.dims.es b.dims.es
def aIt(a b:Typ):Bool:=decide (a.elem.bs=b.elem.bs)&&lO a.shape b.shape
theorem c106(hf:pg.fs 106=some LB)(nl cl nl' cl':Bool)(es es':List aR)(hb:es.length<=big):Ret pg 106 [.sl nl (es.map aR.av) cl,.sl nl' (es'.map aR.av) cl'] (.bool (eqL gW es es')):=
 VD (f:=106) (k:=.eqs true [1,0]) hf aR.av (λ_=>by simp only[go_sem,seval]) nl cl nl' cl' es es' hb gW (by intro kb s h x y Q t;simp only[go_sem,seval];simp[gW]) rfl
theorem c143(hf:pg.fs 143=some KW)(h106:pg.fs 106=some LB)(a b:Lin):Ret pg 143 [a.av,b.av] (.bool (eU a b)):=by refine Ret.ofX hf ?_;unfold KW;refine Wk ?_;cases h:decide (a.c=b.c);refine Wk ?_;simp[eU,h];refine Wk ?_;refine aC (c106 h106 _ _ _ _ a.ts.es b.ts.es a.ts.ok) (Wk ?_);simp[eU,h]
theorem c67(hf:pg.fs 67=some aAy)(g:Nat)(hg:∀a b:Lin,Ret pg g [a.av,b.av] (.bool (eU a b)))(nl cl nl' cl':Bool)(es es':List Lin)(hb:es.length<=big) :
  Ret pg 67 [.sl nl (es.map Lin.av) cl,.sl nl' (es'.map Lin.av) cl',.fn g []] (.bool (eqL eU es es')):=
 MX (f:=67) (esz:=2) (ag:=true) rfl hf Lin.av (λx=>[.int .i64 x.c,x.ts.av aR.av]) (λ_=>rfl) (λ_=>rfl) (λ_=>rfl) rfl (λx=>by simp only[go_sem,seval]) nl cl nl' cl' es es' hb g eU (λx _ y _=>hg x y)
end
end
section
def dY:List UInt8:=[105,110,116]
def jX:List UInt8:=[98,111,111,108]
def sA:List UInt8:=[65]
structure qL where
 op:List UInt8
 params:List (List UInt8)
 result:List UInt8
def fJ:List qL:=[
 ⟨[97,100,100],[dY,dY],dY⟩,⟨[115,117,98],[dY,dY],dY⟩,⟨[109,117,108],[dY,dY],dY⟩,⟨[100,105,118],[dY,dY],dY⟩,⟨[109,111,100],[dY,dY],dY⟩,
 ⟨[109,105,110],[dY,dY],dY⟩,⟨[109,97,120],[dY,dY],dY⟩,⟨[110,101,103],[dY],dY⟩,⟨[97,98,115],[dY],dY⟩,⟨[115,105,103,110],[dY],dY⟩,
 ⟨[108,116],[dY,dY],jX⟩,⟨[108,101],[dY,dY],jX⟩,⟨[103,116],[dY,dY],jX⟩,⟨[103,101],[dY,dY],jX⟩,⟨[101,113],[sA,sA],jX⟩,⟨[110,101],[sA,sA],jX⟩,
 ⟨[97,110,100],[jX,jX],jX⟩,⟨[111,114],[jX,jX],jX⟩,⟨[120,111,114],[jX,jX],jX⟩,⟨[110,111,116],[jX],jX⟩,
 ⟨[115,101,108,101,99,116],[jX,sA,sA],sA⟩,⟨[116,111,105,110,116],[jX],dY⟩]
def qL.cells(r:qL):List AV:=[.str r.op,.sl false (r.params.map .str) true,.str r.result]
def TG:AV:=.agg (fJ.flatMap qL.cells)
def fE(op:List UInt8):Option qL:=fJ.find? λr=>decide (r.op=op)
section
variable{pg:Pg}
theorem c107(hf:pg.fs 107=some A6)(nl cl:Bool)(es:List AV)(hel:∀x∈es,El 1 false x)(hb:es.length<=big)(hnl:nl=true->es=[]):bV pg 107 [.sl nl es cl] (pH 1 false es):=by refine bV.ofX hf ?_;unfold A6;refine Wk ?_;cases nl;refine Wk ?_;refine kW (kb:=0) (s:=1) (bytes:=16) (es:=[]) (xs:=es) (Own.nil _ _ _ _ _ _ rfl) (by simp) hel ?_ (by decide) ?_;simp only[List.length_nil,big]at *;omega;intro v' rd pa ho hk hpa;refine Wk ?_;exact ho.conv (by simpa using hel);refine Wk ?_;exact .inl ⟨hnl rfl,true,true,rfl,rfl⟩
theorem c177(hf:pg.fs 177=some o8):Ret pg 177 [] TG:=
 Ret.closed (.n 177 o8 .e .e) (by intro f cf h;have:=BT.All.find (p:=λf cf=>pg.fs f=some cf) (t:=.n 177 o8 .e .e) ⟨hf,trivial,trivial⟩ h;exact this) 2 (by kernel_rfl)
theorem aFr(d:List qL)(x:qL)(r:List qL):eY ((d++x::r).flatMap qL.cells) (d.length*3) 3 true=some (.agg x.cells):=by
 have hl:∀l:List qL,(l.flatMap qL.cells).length=l.length*3:=by
  intro l
  induction l with
  |nil=>rfl
  |cons y s ih=>simp[qL.cells,ih];omega
 rw[CN,if_pos (by rw[hl];simp;omega)];rw[List.flatMap_append,List.drop_append_of_le_length (by rw[hl];omega),List.drop_eq_nil_of_le (by rw[hl];omega),List.nil_append];rw[List.flatMap_cons];have:x.cells.length=3:=rfl;rw[<-this,List.take_left]
def kH(op:List UInt8)(r:AV):Prop:=
 match fE op with
 |none=>r = .tup [.sl true [] true,.str [],.bool false]
 |some p=>∃nl cl,r = .tup [.sl nl (p.params.map .str) cl,.str p.result,.bool true]
theorem c140(hf:pg.fs 140=some KY)(h177:pg.fs 177=some o8)(h107:pg.fs 107=some A6)(op:List UInt8):bV pg 140 [.str op] (kH op):=by
 refine bV.ofX hf ?_;unfold KY;refine Wk ?_;refine aC (c177 h177) (Wk ?_);have h22:(22:Int)=fJ.length:=rfl;refine eJ fJ (λd e=>eH e (some 8) (.int .i64 d.length)) (λd r hp=>fE op=r.find? λx=>decide (x.op=op)) rfl ?_ ?_ ?_;rfl;intro hp hI;simp only[HA,G9,<-h22,go_sem,seval];simp[kH,hI];intro d x r hp hes hI;have hlt:decide ((d.length:Int)<22)=true:=by rw[h22,hes];exact aCj d x r
 have hlt':((d.length:Int)<22)=True:=by simpa using hlt
 have hpa:eY (fJ.flatMap qL.cells) (d.length*3) 3 true=some (.agg x.cells):=by rw[hes];exact aFr d x r
 have hb:(d++x::r).length<=big:=by rw[<-hes];decide
 have hlt'':((d.length:Int)<((22:Nat):Int))=True:=by simpa using hlt
 simp only[HA,G9,TG,hlt,hlt',hlt'',hpa,qL.cells,go_sem,seval];cases hx:decide (x.op=op);simp only[cQ hb,go_sem,seval];simpa[List.find?_cons,hx] using hI;refine Wk ?_;have hel:∀y∈x.params.map AV.str,El 1 false y:=by intro y hy;simp only[List.mem_map]at hy;obtain⟨z,_,rfl⟩:=hy;exact El.str z
 have hI':fE op=some x:=by simpa[List.find?_cons,hx] using hI
 refine QD (c107 h107 false true (x.params.map .str) hel ?_ (by simp)) ?_ hel ?_ ?_;have:∀y∈fJ,y.params.length<=big:=by decide
 simpa using this x (by rw[hes];simp);simp only[treeL,tH,Bool.and_true];exact bQ (f:=AV.str) (λ_=>rfl) x.params;intro hnil nl cl _;refine Wk ?_;refine cN ?_;simp only[kH,hI'];exact⟨nl,cl,by rw[hnil]⟩;intro cs hcs hch;refine Wk ?_;refine cN ?_;have htr:treeL (x.params.map AV.str)=true:=bQ (f:=AV.str) (λ_=>rfl) x.params;have hms:∀h,mapS (snap 62 h) (x.params.map AV.str)=some (x.params.map AV.str,[]):=λh=>dA 61 h htr;have hch':jS 1 false x.params.length cs=some (x.params.map AV.str):=by simpa using hch
 simp only[hms,hch',kH,hI',conv,depth,fR,eN,bG,go_sem,seval];exact⟨false,_,rfl⟩
def iT(n:Int):Bool:=decide (-2147483648<=n)&&decide (n<=2147483647)
def lS(n:Int):Bool:=decide (n=0)||decide (n=1)
theorem aEW(hf:pg.fs 148=some uT)(n:Int):Ret pg 148 [.str [105,110,116],.int .i64 n] (.bool (iT n)):=by
 refine Ret.ofX hf ?_;unfold uT
 repeat' (first|simp only[*,go_sem,seval]|refine bW (λ_=>?_) (λ_=>?_)|refine bZ (λ_=>?_) (λ_=>?_)|refine cN ?_)
 all_goals simp[iT, *]
theorem aLu(hf:pg.fs 148=some uT)(n:Int):Ret pg 148 [.str [98,111,111,108],.int .i64 n] (.bool (lS n)):=by
 refine Ret.ofX hf ?_;unfold uT;refine Wk ?_;simp only[show decide (([98,111,111,108]:List UInt8)=[105,110,116])=false by decide]
 repeat' (first|simp only[*,go_sem,seval]|refine bW (λ_=>?_) (λ_=>?_)|refine bZ (λ_=>?_) (λ_=>?_)|refine cN ?_)
 all_goals simp[lS, *]
def gY(l:List Int)(n:Int):Bool:=l.all λa=>decide (0<=a)&&decide (a<n)
def gV(s:aE)(n:Int):Bool:=
 if s.op.bs=[99,111,110,115,116] then decide ((s.args.es.length:Int)=0)&&iT s.num
 else if s.op.bs=[116,114,117,116,104] then decide ((s.args.es.length:Int)=0)&&lS s.num
 else match fE s.op.bs with
  |none=>false
  |some p=>gY s.args.es n&&decide (s.num=0)&&decide ((s.args.es.length:Int)=(p.params.length:Int))
theorem c111(hf:pg.fs 111=some K9)(h148:pg.fs 148=some uT)(h140:∀op,bV pg 140 [.str op] (kH op))(s:aE)(n:Int):Ret pg 111 [s.av,.int .i64 n] (.bool (gV s n)):=by
 refine Ret.ofX hf ?_;have hb:=s.args.ok;unfold K9;refine Wk ?_;cases h1:decide (s.op.bs=[99,111,110,115,116])
 case true=>refine Wk ?_;cases h2:decide ((s.args.es.length:Int)=0);simp only[h2,go_sem,seval];simp at h1 h2;simp[gV,h1,h2];simp only[h2,go_sem,seval];refine aC (aEW h148 s.num) (Wk ?_);simp at h1 h2;simp[gV,h1,h2]
 refine Wk ?_;cases h3:decide (s.op.bs=[116,114,117,116,104])
 case true=>refine Wk ?_;cases h2:decide ((s.args.es.length:Int)=0);simp only[h2,go_sem,seval];simp at h1 h2 h3;simp[gV,h1,h2,h3];simp only[h2,go_sem,seval];refine aC (aLu h148 s.num) (Wk ?_);simp at h1 h2 h3;simp[gV,h1,h2,h3]
 refine Wk ?_;obtain⟨r,hr,hP⟩:=h140 s.op.bs
 have hspec:gV s n=match fE s.op.bs with
  |none=>false
  |some p=>gY s.args.es n&&decide (s.num=0)&&decide ((s.args.es.length:Int)=(p.params.length:Int)):=by
  simp at h1 h3;simp[gV,h1,h3]
 generalize gV s n=res at hspec ⊢;obtain⟨nl,cl,ps,rs,ok,rfl,hres⟩:∃nl cl,∃ps:List (List UInt8),∃rs ok,r = .tup [.sl nl (ps.map .str) cl,.str rs,.bool ok]/\res=(ok&&gY s.args.es n&&decide (s.num=0)&&decide ((s.args.es.length:Int)=(ps.length:Int))):=by
  unfold kH at hP;cases hp:fE s.op.bs with
  |none=>rw[hp]at hP hspec;exact⟨_,_,[],_,_,hP,by simp[hspec]⟩
  |some p=>rw[hp]at hP hspec;obtain⟨nl,cl,hP⟩:=hP;exact⟨_,_,p.params,_,_,hP,by simp[hspec]⟩
 refine aC hr (Wk ?_)
 refine eJ s.args.es (λd e=>eH (eH e (some 44) (.int .i64 d.length)) (some 7) (.bool (ok&&gY d n))) (λd r hp=>(∃fz,hp.get 1=some (0,.blk [.str s.op.bs,.int .i64 s.num,.sl s.args.nl (s.args.es.map aV) s.args.cl] 3 true true fz)))
  (by have h0:(ok&&gY [] n)=ok:=by simp[gY]
      rw[h0];rfl) ?_ ?_ ?_
 exact⟨_,rfl⟩;rintro hp ⟨fz,h1⟩;simp only[HE,HD,go_sem,seval];cases h4:ok&&gY s.args.es n;simp only[h4,h1,go_sem,seval];simp[hres,h4];cases h5:decide (s.num=0);simp only[h1,h5,go_sem,seval];simp[hres,h4,h5];simp only[h1,h5,go_sem,seval];simp[hres,h4,h5]
 ·rintro d x r hp hes ⟨fz,h1⟩;rw[hes]at hb h1 ⊢;have hx:(ok&&gY (d++[x]) n)=((ok&&gY d n)&&(decide (0<=x)&&decide (x<n))):=by simp[gY,Bool.and_assoc]
  rw[hx];cases hA:(ok&&gY d n)<;>cases hB:decide (0<=x)<;>cases hC:decide (x<n)
  all_goals simp only[HE,HD,hA,hB,hC,cQ hb,go_sem,seval]
  all_goals exact⟨fz,h1⟩
end
end
section
def aMc(s:List UInt8):Bool:=
 match s with
 | c::d::t=>(decide ((c.toNat:Int)=105)||decide ((c.toNat:Int)=106))&&(d::t).all cT
 |_=>false
def YH(s:cB):Bool:=(decide (s.row.bs=[])||fT s.row.bs)&&decide ((s.dims.es.length:Int)<=6)&&s.dims.es.all eT
def aIs(t:Typ):Bool:=(decide (t.elem.bs=[105,110,116])||decide (t.elem.bs=[98,111,111,108])||JS t.elem.bs)&&YH t.shape
def YA(t:Typ)(vars:List Str):Bool:=aIs t && !JS t.elem.bs&&decide (t.shape.row.bs=[])&&aY t.shape.dims.es vars
def S0(p:List Str):List Str->Bool
 |[]=>true
 |x::r=>fT x.bs && !aMc x.bs&&(match p.getLast? with|none=>true|some q=>Op.bytesLess q.bs x.bs)&&S0 (p++[x]) r
section
variable{pg:Pg}
theorem c205(hf:pg.fs 205=some DZ)(nl cl:Bool)(es:List Lin)(hb:es.length<=big)(g:Nat)(cs:List AV)(hcs:treeL cs=true)(p:Lin->Bool)(hp:∀x∈es,Ret pg g (x.av::cs) (.bool (p x))) :
  bV pg 205 [.sl nl (es.map Lin.av) cl,.fn g cs] (λr=>∃i:Int,r = .int .i64 i/\decide (0<=i)=es.any p):=
 FM (f:=205) (esz:=2) (ag:=true) hf Lin.av (λ_=>by simp only[go_sem,seval]) (λ_=>by simp only[go_sem,seval]) nl cl es hb g cs hcs p hp
theorem c175(hf:pg.fs 175=some KS)(h205:pg.fs 205=some DZ)(nl cl:Bool)(es:List Lin)(hb:es.length<=big)(g:Nat)(cs:List AV)(hcs:treeL cs=true)(p:Lin->Bool)(hp:∀x∈es,Ret pg g (x.av::cs) (.bool (p x))) :
  Ret pg 175 [.sl nl (es.map Lin.av) cl,.fn g cs] (.bool (es.any p)):=
 xW (n:=205) hf (by simp only[treeL,tH,xL,hcs,Lin.treeL_av,Bool.and_true]) (c205 h205 nl cl es hb g cs hcs p hp)
def vC(k:aF):Bool:=
 S0 [] k.vars.es&&(decide ((k.vars.es.length:Int)<=12)&&aY k.wher.es k.vars.es&&decide (0<=k.inputs)&&decide (k.inputs<=8)&&decide (k.inputs<=k.values.es.length)&&decide ((k.values.es.length:Int)<=k.inputs+400) &&
  decide ((k.list.es.length:Int)<=400)&&k.values.es.all λt=>YA t k.vars.es)
end
end
section
def dH(n:Int):List aE->Bool
 |[]=>true
 |s::r=>gV s n&&dH (n+1) r
def cR(fn:List aE)(n:Int):Bool:=decide (0<=n)&&decide (n<=20)&&decide ((fn.length:Int)<=60) && !decide (n+fn.length=0)&&dH n fn
def c7(p:aA)(a b c d e f:Bool):Bool:=
 (a||decide (p.num=0))&&(b||decide (p.value=0))&&(c||decide (p.name.bs=[]))&&(d||decide ((p.at_.es.length:Int)=0))&&(e || !p.dyn&&decide (p.check=0))&&(f||decide ((p.fn.es.length:Int)=0))
def nK(p:aA)(values:Int):Bool:=
 c7 p false true false true true false&&decide (0<=p.value)&&decide (p.value<values)&&decide (0<=p.check) &&
  (if p.dyn then decide ((p.at_.es.length:Int)<=5)&&decide ((p.kids.length:Int)=1) else decide ((p.at_.es.length:Int)<=6)&&decide ((p.kids.length:Int)=0)&&decide (p.check=0))
section
variable{pg:Pg}
theorem c70(hf:pg.fs 70=some V8)(h111:∀(s:aE) (n:Int),Ret pg 111 [s.av,.int .i64 n] (.bool (gV s n)))(nl cl:Bool)(fn:List aE)(hb:fn.length<=big)(n:Int) :
  Ret pg 70 [.sl nl (fn.map aE.av) cl,.int .i64 n] (.bool (cR fn n)):=by
 refine Ret.ofX hf ?_;unfold V8;refine Wk ?_;cases h1:decide (n<0)
 case true=>
  simp only[h1,go_sem,seval];simp at h1;have:decide (0<=n)=false:=by simp;omega
  simp[cR,this]
 simp only[h1,go_sem,seval];cases h2:decide (20<n)
 case true=>
  simp only[h2,go_sem,seval];simp at h2;have:decide (n<=20)=false:=by simp;omega
  simp[cR,this]
 simp only[h2,go_sem,seval];cases h3:decide (60<(fn.length:Int))
 case true=>
  simp only[h3,go_sem,seval];simp at h3;have:decide ((fn.length:Int)<=60)=false:=by simp;omega
  simp[cR,this]
 simp only[nH]at h1 h2;have hw:wr .i64 (n+fn.length)=n+fn.length:=by simp only[big]at hb;exact fZ (by omega) (by omega)
 simp only[h3,hw,go_sem,seval];cases h4:decide (n+(fn.length:Int)=0)
 case true=>simp only[h4,go_sem,seval];simp[cR,h4]
 simp only[h4,go_sem,seval];have hspec:cR fn n=dH n fn:=by
  simp only[nH]at h3;have e1:decide (0<=n)=true:=by simp;omega
  have e2:decide (n<=20)=true:=by simp;omega
  have e3:decide ((fn.length:Int)<=60)=true:=by simp;omega
  simp[cR,h4,e1,e2,e3]
 rw[hspec];refine eJ fn (λd e=>eH e (some 27) (.int .i64 d.length)) (λd r hp=>dH n fn=dH (n+d.length) r) rfl ?_ ?_ ?_;simp;intro hp hI;simp only[NB,NA,go_sem,seval];rw[hI];rfl;intro d x r hp hes hI;subst hes;have hw:wr .i64 (n+d.length)=n+d.length:=by simp only[big,cO,List.length_cons]at hb;exact fZ (by omega) (by omega)
 simp only[NB,NA,go_sem,seval];rw[hw];refine aC (h111 x _) (Wk ?_);cases hx:gV x (n+d.length);refine Wk ?_;rw[hI];simp[dH,hx];simp only[cQ hb,go_sem,seval];rw[hI];simp[dH,hx,Int.add_assoc]
theorem SF(hf:pg.fs 206=some lF)(p:aA):Ret pg 206 [p.av,.bool false,.bool true,.bool false,.bool true,.bool true,.bool false] (.bool (c7 p false true false true true false)):=by
 refine Ret.ofX hf ?_;unfold lF
 repeat' (first|simp only[*,go_sem,seval]|refine bW (λ_=>?_) (λ_=>?_)|refine bZ (λ_=>?_) (λ_=>?_)|refine cN ?_)
 all_goals (simp_all [c7])
theorem N5(hf:pg.fs 206=some lF)(p:aA):Ret pg 206 [p.av,.bool true,.bool false,.bool false,.bool false,.bool false,.bool false] (.bool (c7 p true false false false false false)):=by
 refine Ret.ofX hf ?_;unfold lF
 repeat' (first|simp only[*,go_sem,seval]|refine bW (λ_=>?_) (λ_=>?_)|refine bZ (λ_=>?_) (λ_=>?_)|refine cN ?_)
 all_goals (simp_all [c7])
theorem W2(hf:pg.fs 206=some lF)(p:aA):Ret pg 206 [p.av,.bool false,.bool false,.bool false,.bool true,.bool false,.bool false] (.bool (c7 p false false false true false false)):=by
 refine Ret.ofX hf ?_;unfold lF
 repeat' (first|simp only[*,go_sem,seval]|refine bW (λ_=>?_) (λ_=>?_)|refine bZ (λ_=>?_) (λ_=>?_)|refine cN ?_)
 all_goals (simp_all [c7])
theorem W1(hf:pg.fs 206=some lF)(p:aA):Ret pg 206 [p.av,.bool false,.bool false,.bool true,.bool true,.bool false,.bool true] (.bool (c7 p false false true true false true)):=by
 refine Ret.ofX hf ?_;unfold lF
 repeat' (first|simp only[*,go_sem,seval]|refine bW (λ_=>?_) (λ_=>?_)|refine bZ (λ_=>?_) (λ_=>?_)|refine cN ?_)
 all_goals (simp_all [c7])
theorem SG(hf:pg.fs 206=some lF)(p:aA):Ret pg 206 [p.av,.bool false,.bool false,.bool false,.bool false,.bool false,.bool true] (.bool (c7 p false false false false false true)):=by
 refine Ret.ofX hf ?_;unfold lF
 repeat' (first|simp only[*,go_sem,seval]|refine bW (λ_=>?_) (λ_=>?_)|refine bZ (λ_=>?_) (λ_=>?_)|refine cN ?_)
 all_goals (simp_all [c7])
theorem aBx(hf:pg.fs 206=some lF)(p:aA):Ret pg 206 [p.av,.bool false,.bool false,.bool false,.bool false,.bool false,.bool false] (.bool (c7 p false false false false false false)):=by
 refine Ret.ofX hf ?_;unfold lF
 repeat' (first|simp only[*,go_sem,seval]|refine bW (λ_=>?_) (λ_=>?_)|refine bZ (λ_=>?_) (λ_=>?_)|refine cN ?_)
 all_goals (simp_all [c7])
theorem c207(hf:pg.fs 207=some DY)(h206:pg.fs 206=some lF)(p:aA)(hp:p.kids.length<=big)(v:Int) :
  Ret pg 207 [p.av,.int .i64 v] (.bool (nK p v)):=by
 have h6:=SF h206 p;rw[aA.avc]at h6;refine Ret.ofX hf ?_;unfold DY;clear h206
 repeat' (first|simp only[*,go_sem,seval]|refine bW (λ_=>?_) (λ_=>?_)|refine bZ (λ_=>?_) (λ_=>?_)|(refine aC h6 ?_)|refine cN ?_)
 all_goals (clear h6)
 all_goals (simp_all [nK])
 all_goals (try omega)
end
end
section
mutual
theorem aA.ind'{P:aA->Prop}(h:∀p:aA,(∀q∈p.kids,P q)->P p):∀p,P p
 |.mk op num value name at_ dyn check fn knl kids kcl=>h _ (aA.inds h kids)
theorem aA.inds{P:aA->Prop}(h:∀p:aA,(∀q∈p.kids,P q)->P p):∀l:List aA,∀q∈l,P q
 |[]=>by simp
 |x::r=>List.forall_mem_cons.2 ⟨aA.ind' h x,aA.inds h r⟩
end
mutual
def kR:aA->Int
 |.mk _ _ _ _ _ _ _ _ _ kids _=>jH 1 kids
def jH(a:Int):List aA->Int
 |[]=>a
 |p::r=>jH (wr .i64 (a+kR p)) r
end
theorem CO(p:aA):kR p=jH 1 p.kids:=by cases p;rw[kR];rfl
theorem pV:∀(d:List aA)(a:Int)(x:aA),jH a (d++[x])=wr .i64 (jH a d+kR x)
 |[],a,x=>by simp[jH]
 |y::d,a,x=>by simp only[List.cons_append,jH];exact pV d _ x
section
variable{pg:Pg}
theorem c146(hf:pg.fs 146=some D3):∀p:aA,p.ok->Ret pg 146 [p.av] (.int .i64 (kR p)):=by refine aA.ind' λp ih hp=>?_;obtain⟨hb,hk⟩:=(aA.ok_iff p).1 hp;refine Ret.ofX hf ?_;unfold D3;refine Wk ?_;refine eJ p.kids (λd e=>eH (eH e (some 9) (.int .i64 d.length)) (some 3) (.int .i64 (jH 1 d))) (λd r hp=>True) (by simp only[jH];rfl) trivial ?_ ?_;rintro hp -;simp only[G8,G7,go_sem,seval];exact(CO p).symm;rintro d x r hp hes -;have hx:=ih x (by rw[hes];simp) (hk x (by rw[hes];simp));rw[hes]at hb;rw[hes];rw[aA.avc]at hx;simp only[G8,G7,go_sem,seval];refine aC (hx) ?_;simp only[cQ hb,pV,go_sem,seval]
theorem c209(hf:pg.fs 209=some A2)(n:Nat)(h0:0<n)(hb:n<=1073741824):bV pg 209 [.sl true [] true,.int .i64 n] (pH 1 false []):=by
 refine bV.ofX hf ?_;have e1:decide ((n:Int)<0)=false:=by simp
 have e2:decide ((0:Int)<n)=true:=by simp;omega
 have e3:wr .i64 (n:Int)=n:=fZ (by omega) (by omega);have e4:wr .i64 (0:Int)=0:=rfl;unfold A2;simp only[e1,jG,kQ,Int.sub_zero,Int.sub_self,e3,e4,e2,Option.getD_none,go_sem,seval]
 have hz:XO pg 0 (.apz 1 false 16 [.str []]) 1 [] [.sl true [] true,.int .i64 (n:Int)]=λQ _=>Q (.rf 1 0 0 n n) (.pat [1] [⟨1,0,.blk (List.replicate n [.str []]).flatten 1 false false false⟩]):=by
  funext Q t;have hn:n≠0:=by omega
  show WO pg 0 _ 1 [] _ Q=_;rw[cG rfl];have ha:bC [AV.str []]=true:=rfl;have hb':(n:Int)<=1073741824:=by omega
  simp[FF,VC,hb,hb',ha,lG,hn,IY,aP,Hp.next,O7]
 rw[hz];simp only[jG,kQ,Option.getD_none,Option.getD_some,go_sem,seval];simp only[XV,IY,Option.getD_none,Option.getD_some,Option.isNone_none,Bool.or_true,Int.toNat_zero,Nat.sub_zero];rw[if_pos (by simp)];refine Wk ?_;simp only[jS,List.drop_zero,conv,depth,fR,eN,bG,go_sem,seval];exact⟨_,by simp,.inr rfl⟩
theorem El.strs(l:List Str):∀x∈l.map Str.av,El 1 false x:=by intro x hx;simp only[List.mem_map]at hx;obtain⟨y,_,rfl⟩:=hx;exact⟨rfl,rfl,rfl⟩
theorem c184(hf:pg.fs 184=some D0)(h209:pg.fs 209=some A2)(nl cl:Bool)(vars:List Str)(s:Str)(hb:vars.length<=big) :
  bV pg 184 [.sl false [.sl nl (vars.map Str.av) cl,.sl false [.str s.bs] true] true] (pH 1 false ((vars++[s]).map Str.av)):=by
 refine bV.ofX hf ?_;simp only[big]at hb;have e1:wr .i64 (vars.length:Int)=vars.length:=fZ (by omega) (by omega);have e2:wr .i64 ((vars.length:Int)+1)=((vars.length+1:Nat):Int):=by rw[fZ (by omega) (by omega)];omega
 have e3:decide ((vars.length:Int)<0)=false:=by simp
 have e4:decide ((((vars.length+1:Nat):Int))<0)=false:=by simp;omega
 have e5:wr .i64 1=1:=rfl;have e6:wr .i64 2=2:=rfl;have e7:((1:Int).toNat)=1:=rfl;have e8:(((2:Nat):Int))=2:=rfl;have e13:(((1:Nat):Int))=1:=rfl;have e9:decide ((0:Int)<2)=true:=rfl;have e10:decide ((1:Int)<2)=true:=rfl;have e11:decide ((2:Int)<2)=false:=rfl;have e12:((0:Int)<=1)=True:=by simp
 unfold D0;refine Wk ?_;rw[rN];simp only[yI,yH,e1,e3,Int.zero_add,e5,e8,e9,go_sem,seval];rw[rN];simp only[yI,yH,e13,e2,e4,e5,e6,e7,e8,e10,e12,Int.reduceAdd,go_sem,seval];rw[rN];simp only[yI,yH,e8,e11,go_sem,seval];refine HL (c209 h209 (vars.length+1) (by omega) (by omega)) (by simp only[go_sem,seval]) (by simp) ?_;intro v rd pa ho hk hpa;refine Wk ?_;rw[rN];simp only[uO,uN,e8,e9,go_sem,seval];have hcat:∀v':AV,∀hp:Hp,Own hp 5 1 false v' (vars.map Str.av++[.str s.bs])->∃r,conv hp v'=some r/\pH 1 false ((vars++[s]).map Str.av) r:=by intro v' hp ho';have:=ho'.conv (by have:=El.strs (vars++[s]);simpa[Str.av] using this);simpa[Str.av] using this
 have hfin:∀(v':AV)(hp:Hp),(Own hp 1 1 false v' (vars.map Str.av)/\vars=[])\/Own hp 5 1 false v' (vars.map Str.av) ->
   ∀(Q:AV->Eff->Prop)(t:Tok Q),(∀v2 rd pa,Own (Eff.app hp (.pat rd pa)) 5 1 false v2 (vars.map Str.av++[.str s.bs])->Q v2 (.pat rd pa))->XO pg 0 (.app 1 false 16) 5 hp [v',.sl false [.str s.bs] true] Q t:=by
  intro v' hp hor Q t hq;have hs:∀x∈[AV.str s.bs],El 1 false x:=by intro x hx;simp at hx;subst hx;exact⟨rfl,rfl,rfl⟩
  rcases hor with ⟨ho',hv⟩|ho';exact HM (kb:=0) (s:=5) ho' (by decide) (El.strs vars) hs (by simp;omega) (by omega) (λh=>by simp at h) (λ_ v2 rd pa h _=>hq v2 rd pa h);exact kW (kb:=0) (s:=5) ho' (El.strs vars) hs (by simp;omega) (by omega) (λv2 rd pa h _ _=>hq v2 rd pa h)
 have hrest:∀(v':AV)(hp:Hp),(Own hp 1 1 false v' (vars.map Str.av)/\vars=[])\/Own hp 5 1 false v' (vars.map Str.av)->∀env:List AV,
   clear uN env=PY v' (.sl false [.sl nl (vars.map Str.av) cl,.sl false [.str s.bs] true] true) (.int .i64 2) (.int .i64 1) ->
   XX pg 0 (.loop uO uN) ⟨env,hp⟩ (nS 2 (lB (λst'=>XX pg 0 ((C.reg [⟨some 35,.mov,[.t 6],none,0,0⟩,⟨some 2,.mov,[.t 35],none,0,0⟩] false).seq C.ret) st' (VK [Sum.inl 2] (pH 1 false ((vars++[s]).map Str.av))) ⟨⟩) (VK [Sum.inl 2] (pH 1 false ((vars++[s]).map Str.av))))) ⟨⟩:=by
  intro v' hp hor env henv;rw[rN,henv];simp only[uO,PY,e8,e10,e7,e12,go_sem,seval];refine hfin v' hp hor _ _ ?_;intro v2 rd pa ho2;simp only[e6,e5,go_sem,seval];rw[rN];simp only[uO,uN,e8,e11,Int.reduceAdd,e6,go_sem,seval];exact hcat _ _ ho2
 refine HM (kb:=0) (s:=5) (k1:=1) ho (by decide) (by simp) (El.strs vars) (by simp;omega) (by omega) ?_ ?_;intro hx rd;have hv:vars=[]:=by simpa using hx
 simp only[e5,go_sem,seval];exact hrest v _ (.inl ⟨by rw[hv];exact ho,hv⟩) _ rfl;intro _ v' rd' pa' ho' _;simp only[e5,go_sem,seval];exact hrest v' _ (.inr (by simpa using ho')) _ rfl
end
end
section
def dK(p:aA)(vars:List Str)(values:Int):Bool:=
 if p.op.bs=[99,111,110,115,116] then c7 p true false false false false false&&decide ((p.kids.length:Int)=0)&&iT p.num
 else if p.op.bs=[108,105,110,101,97,114] then c7 p false false false true false false&&decide ((p.kids.length:Int)=0)&&decide ((p.at_.es.length:Int)=1)
 else if p.op.bs=[114,101,97,100] then nK p values
 else if p.op.bs=[105,102] then c7 p false false false true false false&&decide ((p.kids.length:Int)=2)&&decide ((p.at_.es.length:Int)=1)
 else if p.op.bs=[114,101,100,117,99,101] then c7 p false false true true false true&&decide ((p.kids.length:Int)=2)&&decide ((p.at_.es.length:Int)=1)&&fT p.name.bs && !cJ vars p.name.bs&&cR p.fn.es 2
 else if p.op.bs=[99,111,100,101] then c7 p false false false false false true&&cR p.fn.es p.kids.length
 else match fE p.op.bs with
  |none=>false
  |some q=>c7 p false false false false false false&&decide ((p.kids.length:Int)=(q.params.length:Int))
section
variable{pg:Pg}
set_option maxHeartbeats 1000000 in
theorem c182(hname:∀s:Str,Ret pg 57 [.str s.bs] (.bool (fT s.bs)))(hf:pg.fs 182=some KP)(h206:pg.fs 206=some lF)(h148:pg.fs 148=some uT)(h207:pg.fs 207=some DY)(h98:pg.fs 98=some vS)(h138:pg.fs 138=some nB)
  (h70:∀(nl cl:Bool)(fn:List aE),fn.length<=big->∀n:Int,Ret pg 70 [.sl nl (fn.map aE.av) cl,.int .i64 n] (.bool (cR fn n))) (h140:∀op,bV pg 140 [.str op] (kH op))
  (p:aA) (hk:p.kids.length<=big) (nl cl:Bool) (vars:List Str) (hb:vars.length<=big) (v:Int):Ret pg 182 [p.av,.sl nl (vars.map Str.av) cl,.int .i64 v] (.bool (dK p vars v)):=by
 have k1:=N5 h206 p;have k2:=W2 h206 p;have k3:=W1 h206 p;have k4:=SG h206 p;have k5:=aBx h206 p;have k6:=c207 h207 h206 p hk v;have k7:=aEW h148 p.num;have k8:=hname p.name;have k9:Ret pg 98 [.sl nl (vars.map Str.av) cl,.str p.name.bs] (.bool (cJ vars p.name.bs)):=c98 h98 h138 nl cl vars hb p.name.bs;have k10:=h70 p.fn.nl p.fn.cl p.fn.es p.fn.ok 2;have k11:=h70 p.fn.nl p.fn.cl p.fn.es p.fn.ok p.kids.length;rw[aA.avc]at k1 k2 k3 k4 k5 k6;refine Ret.ofX hf ?_;clear h206 h148 h207 h98 h138 h70 hname;unfold KP;refine Wk ?_;cases o1:decide (p.op.bs=[99,111,110,115,116])
 case true=>
  clear h140
  repeat' (first|simp only[*,go_sem,seval]|refine bW (λ_=>?_) (λ_=>?_)|refine bZ (λ_=>?_) (λ_=>?_)|(refine aC k1 ?_)|(refine aC k7 ?_)|refine cN ?_)
  all_goals (clear k1 k2 k3 k4 k5 k6 k7 k8 k9 k10 k11)
  all_goals (simp_all [dK])
 refine Wk ?_;cases o2:decide (p.op.bs=[108,105,110,101,97,114])
 case true=>
  clear h140
  repeat' (first|simp only[*,go_sem,seval]|refine bW (λ_=>?_) (λ_=>?_)|refine bZ (λ_=>?_) (λ_=>?_)|(refine aC k2 ?_)|refine cN ?_)
  all_goals (clear k1 k2 k3 k4 k5 k6 k7 k8 k9 k10 k11)
  all_goals (simp_all [dK])
 refine Wk ?_;cases o3:decide (p.op.bs=[114,101,97,100])
 case true=>
  clear h140
  repeat' (first|simp only[*,go_sem,seval]|refine bW (λ_=>?_) (λ_=>?_)|refine bZ (λ_=>?_) (λ_=>?_)|(refine aC k6 ?_)|refine cN ?_)
  all_goals (clear k1 k2 k3 k4 k5 k6 k7 k8 k9 k10 k11)
  all_goals (simp_all [dK])
 refine Wk ?_;cases o4:decide (p.op.bs=[105,102])
 case true=>
  clear h140
  repeat' (first|simp only[*,go_sem,seval]|refine bW (λ_=>?_) (λ_=>?_)|refine bZ (λ_=>?_) (λ_=>?_)|(refine aC k2 ?_)|refine cN ?_)
  all_goals (clear k1 k2 k3 k4 k5 k6 k7 k8 k9 k10 k11)
  all_goals (simp_all [dK])
 refine Wk ?_;cases o5:decide (p.op.bs=[114,101,100,117,99,101])
 case true=>
  clear h140
  repeat' (first|simp only[*,go_sem,seval]|refine bW (λ_=>?_) (λ_=>?_)|refine bZ (λ_=>?_) (λ_=>?_)|(refine aC k3 ?_)|(refine aC k8 ?_)|(refine aC k9 ?_)|(refine aC k10 ?_)|refine cN ?_)
  all_goals (clear k1 k2 k3 k4 k5 k6 k7 k8 k9 k10 k11)
  all_goals (simp_all [dK])
 refine Wk ?_;cases o6:decide (p.op.bs=[99,111,100,101])
 case true=>
  clear h140
  repeat' (first|simp only[*,go_sem,seval]|refine bW (λ_=>?_) (λ_=>?_)|refine bZ (λ_=>?_) (λ_=>?_)|(refine aC k4 ?_)|(refine aC k11 ?_)|refine cN ?_)
  all_goals (clear k1 k2 k3 k4 k5 k6 k7 k8 k9 k10 k11)
  all_goals (simp_all [dK])
 obtain⟨r,hr,hP⟩:=h140 p.op.bs;clear h140
 have hspec:dK p vars v=match fE p.op.bs with
  |none=>false
  |some q=>c7 p false false false false false false&&decide ((p.kids.length:Int)=(q.params.length:Int)):=by
  simp at o1 o2 o3 o4 o5 o6;simp[dK,o1,o2,o3,o4,o5,o6]
 generalize dK p vars v=res at hspec ⊢;obtain⟨nl',cl',ps,rs,ok,rfl,hres⟩:∃nl cl,∃ps:List (List UInt8),∃rs ok,r = .tup [.sl nl (ps.map .str) cl,.str rs,.bool ok]/\res=(ok&&c7 p false false false false false false&&decide ((p.kids.length:Int)=(ps.length:Int))):=by
  unfold kH at hP;cases hp:fE p.op.bs with
  |none=>rw[hp]at hP hspec;exact⟨_,_,[],_,_,hP,by simp[hspec]⟩
  |some q=>rw[hp]at hP hspec;obtain⟨nl,cl,hP⟩:=hP;exact⟨_,_,q.params,_,_,hP,by simp[hspec]⟩
 clear hP hspec;have htr:treeL (ps.map AV.str)=true:=bQ (f:=AV.str) (λ_=>rfl) ps
 repeat' (first|simp only[*,go_sem,seval]|refine bW (λ_=>?_) (λ_=>?_)|refine bZ (λ_=>?_) (λ_=>?_)|(refine aC hr ?_)|(refine aC k5 ?_)|refine cN ?_)
 all_goals (clear k1 k2 k3 k4 k5 k6 k7 k8 k9 k10 k11 hr)
 all_goals (simp_all)
end
end
end Go.Tev
