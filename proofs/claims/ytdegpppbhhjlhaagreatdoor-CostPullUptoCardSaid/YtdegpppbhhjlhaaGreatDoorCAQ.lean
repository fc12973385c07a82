import Derived.Test.YtdegpppbhhjlhaaGreatDoorCAP
import Derived.Test.YtdegpppbhhjlhaaGreatDoorCAI
import Derived.Test.YtdegpppbhhjlhaaGreatDoorCAM
set_option linter.all false
namespace Go.Tev
section
structure El(esz:Nat)(ag:Bool)(v:AV):Prop where
 fits:v.fits esz ag=true
 one:bL v.cells=true
 tree:v.tree=true
theorem El.len{esz:Nat}{ag:Bool}{v:AV}(h:El esz ag v):v.cells.length=esz:=by have:=h.fits;cases v<;>simp[AV.fits,AV.cells]at this ⊢ <;> first|exact this.2|exact this.2.symm|omega
theorem El.isAgg{esz:Nat}{ag:Bool}{v:AV}(h:El esz ag v):v.isAgg=ag:=by have:=h.fits;cases v<;>cases ag<;>simp[AV.fits,AV.isAgg]at this ⊢
theorem cG{esz:Nat}{ag:Bool}:∀{es:List AV},(∀x∈es,El esz ag x)->∃cs,aV esz ag es=some cs/\cs.length=es.length*esz/\bL cs=true/\∀tl,kA esz ag es.length (cs++tl)=some es
 |[],_=>⟨[],rfl,by simp,rfl,λ_=>rfl⟩
 |x::r,h=>by
  obtain⟨cs,h1,h2,h3,h4⟩:=cG (λy hy=>h y (cE _ hy));have hx:=h x (by simp);have hl:=hx.len;refine⟨x.cells++cs,?_,?_,?_,?_⟩;simp[aV,hx.fits,hx.one,h1];simp[h2,hl,Nat.add_mul];omega;have happ:∀(p q:List AV),bL p=true->bL q=true->bL (p++q)=true:=by
   intro p q hp hq
   induction p with
   |nil=>exact hq
   |cons y s ih=>simp only[bL,aD,List.cons_append]at hp ⊢;exact⟨hp.1,ih hp.2⟩
  exact happ _ _ hx.one h3;intro tl;have hag:=hx.isAgg;cases ag with
  |true=>
   obtain⟨c,rfl⟩:∃c,x = .agg c:=by cases x<;>simp[AV.isAgg]at hag;exact⟨_,rfl⟩
   simp only[AV.cells]at hl;simp only[List.length_cons,kA,AV.cells,if_true,List.append_assoc];rw[if_neg (by simp[hl])];rw[<-hl];simp only[List.drop_left,List.take_left];rw[hl,h4 tl];rfl
  |false=>
   have hc:x.cells=[x]:=by cases x<;>simp[AV.isAgg]at hag<;>rfl
   have he:esz=1:=by rw[hc]at hl;simpa using hl.symm
   subst he;simp only[List.length_cons,kA,hc,Bool.false_eq_true,if_false,List.cons_append,List.nil_append,hag,h4 tl];rfl
theorem ST{h:Hp}{esz:Nat}{ag:Bool}{es:List AV}(he:∀x∈es,El esz ag x):mapS (snap depth h) es=some (es,[]):=by
 refine eK 63 h ?_
 induction es with
 |nil=>rfl
 |cons x r ih=>simp only[treeL,aD];exact⟨(he x (by simp)).tree,ih (λy hy=>he y (cE _ hy))⟩
def Own(h:Hp)(k0 esz:Nat)(ag:Bool)(v:AV)(es:List AV):Prop:=
 (es=[]/\∃nl cl,v = .sl nl [] cl/\(nl||cl)=true) \/
 (∃e cs,v = .rf k0 e 0 es.length es.length/\h.get k0=some (e,.blk cs esz ag false false)/\aV esz ag es=some cs)
theorem Own.mono{h h':Hp}{k0 esz:Nat}{ag:Bool}{v:AV}{es:List AV}(o:Own h k0 esz ag v es)(hh:h'.get k0=h.get k0):Own h' k0 esz ag v es:=by
 rcases o with o|⟨e,cs,h2,h3,h4⟩
 exact .inl o;exact .inr ⟨e,cs,h2,by rw[hh];exact h3,h4⟩
theorem Own.nil(h:Hp)(k0 esz:Nat)(ag:Bool)(nl cl:Bool)(hc:(nl||cl)=true):Own h k0 esz ag (.sl nl [] cl) []:=.inl ⟨rfl,nl,cl,rfl,hc⟩
def pP(esz:Nat)(ag:Bool)(es:List AV)(r:AV):Prop:=
 (es=[]/\∃nl cl,r = .sl nl [] cl/\(nl||cl)=true)\/r = .os es esz ag
theorem Own.conv{h:Hp}{k0 esz:Nat}{ag:Bool}{v:AV}{es:List AV}(o:Own h k0 esz ag v es)(he:∀x∈es,El esz ag x):∃r,Tev.conv h v=some r/\pP esz ag es r:=by
 rcases o with ⟨rfl,nl,cl,rfl,hc⟩|⟨e,cs,rfl,hg,hu⟩
 exact⟨.sl nl [] cl,vX rfl,.inl ⟨rfl,nl,cl,rfl,hc⟩⟩;obtain⟨cs',h1,h2,h3,h4⟩:=cG he;rw[hu]at h1;cases h1;have h5:=h4 [];rw[List.append_nil]at h5;refine⟨.os es esz ag,?_,.inr rfl⟩;simp[Tev.conv,hg,h5,ST he]
theorem fY{esz:Nat}{ag:Bool}:∀{a b:List AV}{c d:List AV},aV esz ag a=some c->aV esz ag b=some d->aV esz ag (a++b)=some (c++d)
 |[],b,c,d,h1,h2=>by cases h1;exact h2
 |x::r,b,c,d,h1,h2=>by simp only[aV]at h1;split at h1;rename_i hc;simp only[kW]at h1;obtain⟨c',h3,rfl⟩:=h1;simp[aV,hc,fY h3 h2];cases h1
section
variable{pg:Pg}{kb:Nat}
theorem m8{esz bytes s:Nat}{ag:Bool}{h:Hp}{v:AV}{es xs:List AV}{nl cl:Bool}{Q:AV->Eff->Prop}{t:Tok Q}(o:Own h (kb+s) esz ag v es)(he:∀x∈es,El esz ag x)(hx:∀x∈xs,El esz ag x)
  (hl:es.length+xs.length<=1073741824) (hb:bytes<=65536)
  (q:∀v' rd pa,Own (Eff.app h (.pat rd pa)) (kb+s) esz ag v' (es++xs)->(∀k,k≠kb+s->(Eff.app h (.pat rd pa)).get k=h.get k)->(∀x∈pa,x.k=kb+s)->Q v' (.pat rd pa)) :
  XO pg kb (.app esz ag bytes) s h [v,.sl nl xs cl] Q t:=by
 rw[eQ];obtain⟨ds,d1,d2,d3,_⟩:=cG hx;simp only[jN,aO,d1,Option.map_some];by_cases hxs:xs=[]
 subst hxs;cases d1;rcases o with ⟨rfl,nl',cl',rfl,hc⟩|⟨e,cs,rfl,hg,hu⟩
 simp only[i6,List.length_nil,if_true];exact q _ _ _ (.inl ⟨rfl,nl',cl',rfl,hc⟩) (λ_ _=>rfl) (by simp);obtain⟨cs',c1,c2,_,_⟩:=cG he;rw[hu]at c1;cases c1;simp only[i6,hg,List.length_nil,if_true,true_and,Nat.zero_add];rw[if_pos (by omega)];exact q _ _ _ (.inr ⟨e,cs,by simp,by simpa[Eff.app,aJ] using hg,by simpa using hu⟩) (λ_ _=>rfl) (by simp);have hn:xs.length≠0:=by simpa using hxs
 rcases o with ⟨rfl,nl',cl',rfl,hc⟩|⟨e,cs,rfl,hg,hu⟩
 simp only[i6,hn,if_false,hc,List.length_nil,Nat.zero_add,Bool.true_and];have hlx:xs.length<=1073741824:=by simpa using hl
 simp only[hlx,hb,decide_true,Bool.and_self,if_true,aV,List.nil_append];refine q _ _ _ (.inr ⟨_,ds,rfl,?_,by simpa using d1⟩) ?_ (by simp);rw[iZ,aB,if_pos rfl];intro k hk;rw[iZ,aB,if_neg (Ne.symm hk)];obtain⟨cs',c1,c2,_,_⟩:=cG he;rw[hu]at c1;cases c1;have h1:¬(es.length+xs.length<=es.length):=by omega
 simp only[i6,hg,hn,if_false,true_and,Nat.zero_add];rw[if_pos (by omega)];simp only[h1,if_false,hl,hb,decide_true,Bool.true_and,beq_self_eq_true,Bool.not_true,Bool.and_false,Bool.false_eq_true,Bool.not_false,if_true];refine q _ _ _ (.inr ⟨e+1,cs++ds,by simp,?_,fY hu d1⟩) ?_ (by simp);rw[iZ,aB,if_pos rfl];simp[<-c2];intro k hk;rw[iZ,aB,if_neg (Ne.symm hk)]
theorem P6{esz bytes s k1:Nat}{ag:Bool}{h:Hp}{v:AV}{es xs:List AV}{nl cl:Bool}{Q:AV->Eff->Prop}{t:Tok Q}(o:Own h k1 esz ag v es)(hk1:k1≠kb+s)(he:∀x∈es,El esz ag x)(hx:∀x∈xs,El esz ag x)
  (hl:es.length+xs.length<=1073741824) (hb:bytes<=65536)
  (q1:xs=[]->∀rd,Q v (.pat rd []))
  (q2:xs≠[]->∀v' rd pa,Own (Eff.app h (.pat rd pa)) (kb+s) esz ag v' (es++xs)->(∀k,k≠kb+s->k≠k1->(Eff.app h (.pat rd pa)).get k=h.get k)->Q v' (.pat rd pa)) :
  XO pg kb (.app esz ag bytes) s h [v,.sl nl xs cl] Q t:=by
 rw[eQ];obtain⟨ds,d1,d2,d3,_⟩:=cG hx;simp only[jN,aO,d1,Option.map_some];by_cases hxs:xs=[]
 subst hxs;cases d1;rcases o with ⟨rfl,nl',cl',rfl,hc⟩|⟨e,cs,rfl,hg,hu⟩
 simp only[i6,List.length_nil,if_true];exact q1 rfl _;obtain⟨cs',c1,c2,_,_⟩:=cG he;rw[hu]at c1;cases c1;simp only[i6,hg,List.length_nil,if_true,true_and,Nat.zero_add];rw[if_pos (by omega)];exact q1 rfl _;have hn:xs.length≠0:=by simpa using hxs
 rcases o with ⟨rfl,nl',cl',rfl,hc⟩|⟨e,cs,rfl,hg,hu⟩
 simp only[i6,hn,if_false,hc,List.length_nil,Nat.zero_add,Bool.true_and];have hlx:xs.length<=1073741824:=by simpa using hl
 simp only[hlx,hb,decide_true,Bool.and_self,if_true,aV,List.nil_append];refine q2 hxs _ _ _ (.inr ⟨_,ds,rfl,?_,by simpa using d1⟩) ?_;rw[iZ,aB,if_pos rfl];intro k hk _;rw[iZ,aB,if_neg (Ne.symm hk)];obtain⟨cs',c1,c2,_,_⟩:=cG he;rw[hu]at c1;cases c1;have h1:¬(es.length+xs.length<=es.length):=by omega
 have h2:(k1==kb+s)=false:=by simpa using hk1
 simp only[i6,hg,hn,if_false,true_and,Nat.zero_add];rw[if_pos (by omega)];simp only[h1,if_false,hl,hb,decide_true,Bool.true_and,h2,Bool.not_false,if_true,Bool.false_eq_true];refine q2 hxs _ _ _ (.inr ⟨h.next (kb+s),cs++ds,by simp,?_,fY hu d1⟩) ?_;rw[uX,aB,if_pos rfl];simp[<-c2];intro k hk hk2;rw[uX,aB,if_neg (Ne.symm hk),aB,if_neg (Ne.symm hk2)]
theorem qQ{f s esz:Nat}{ag:Bool}{h:Hp}{vs es:List AV}{Q:AV->Eff->Prop}{t:Tok Q}(hr:cA pg f vs (pP esz ag es))(hm:treeL vs=true)
  (q:∀nl cl,(nl=true->es=[])->Q (.sl nl es cl) (.pat [kb+s] [])):XO pg kb (.call f false false) s h vs Q t:=by
 obtain⟨r,hr,⟨rfl,nl,cl,rfl,hc⟩|rfl⟩:=hr;exact cO hr hm rfl (q nl cl (λ_=>rfl));refine i7 hr (eK 63 h hm) (v:=.sl false es false) (pa:=[]) rfl ?_;have:(if (AV.os es esz ag).flat then ([]:List Ent) else aU h [])++[]=[]:=by split<;>rfl
 rw[this];exact q false false (λh=>by cases h)
theorem WL{f s esz:Nat}{ag:Bool}{h:Hp}{vs es:List AV}{Q:AV->Eff->Prop}{t:Tok Q}(hr:cA pg f vs (pP esz ag es))(hm:treeL vs=true)(he:∀x∈es,El esz ag x)
  (q:∀v rd pa,Own (Eff.app h (.pat rd pa)) (kb+s) esz ag v es->(∀k,k≠kb+s->(Eff.app h (.pat rd pa)).get k=h.get k)->(∀x∈pa,x.k=kb+s)->Q v (.pat rd pa)):XO pg kb (.call f true false) s h vs Q t:=by
 obtain⟨r,hr,⟨rfl,nl,cl,rfl,hc⟩|rfl⟩:=hr;exact cO hr hm rfl (q _ _ _ (Own.nil _ _ _ _ _ _ hc) (λ_ _=>rfl) (by simp));obtain⟨cs,c1,c2,_,_⟩:=cG he;refine i7 hr (eK 63 h hm) (v:=.rf (kb+s) (h.next (kb+s)) 0 es.length es.length) (pa:=[⟨kb+s,h.next (kb+s),.blk cs esz ag false false⟩]) (by simp[hY,c1]) ?_;have:(if (AV.os es esz ag).flat then ([]:List Ent) else aU h [])=[]:=by split<;>rfl
 rw[this,List.nil_append];refine q _ _ _ (.inr ⟨_,cs,rfl,?_,c1⟩) ?_ (by simp);rw[iZ,aB,if_pos rfl];intro k hk;rw[iZ,aB,if_neg (Ne.symm hk)]
theorem P5{f s esz:Nat}{ag:Bool}{h:Hp}{vs es:List AV}{Q:AV->Eff->Prop}{t:Tok Q}(hr:cA pg f vs (pP esz ag es))(hm:treeL vs=true)(he:∀x∈es,El esz ag x)
  (q1:es=[]->∀nl cl,(nl||cl)=true->Q (.sl nl [] cl) (.pat [kb+s] []))
  (q2:∀cs,aV esz ag es=some cs->kA esz ag es.length cs=some es->Q (.rf (kb+s) (h.next (kb+s)) 0 es.length es.length) (.pat [kb+s] [⟨kb+s,h.next (kb+s),.blk cs esz ag false false⟩])):XO pg kb (.call f true false) s h vs Q t:=by
 obtain⟨r,hr,⟨rfl,nl,cl,rfl,hc⟩|rfl⟩:=hr;exact cO hr hm rfl (q1 rfl nl cl hc);obtain⟨cs,c1,c2,_,c4⟩:=cG he;refine i7 hr (eK 63 h hm) (v:=.rf (kb+s) (h.next (kb+s)) 0 es.length es.length) (pa:=[⟨kb+s,h.next (kb+s),.blk cs esz ag false false⟩]) (by simp[hY,c1]) ?_;have:(if (AV.os es esz ag).flat then ([]:List Ent) else aU h [])=[]:=by split<;>rfl
 rw[this,List.nil_append];exact q2 cs c1 (by simpa using c4 [])
end
end
section
def cU(c:UInt8):Bool:=decide (48<=c.toNat)&&decide (c.toNat<=57)
def eZ(c:UInt8):Bool:=decide (97<=c.toNat)&&decide (c.toNat<=122)
def iA(s:List UInt8):Bool:=
 match s with
 |[]=>false
 | c::t=>decide (s.length<=30)&&(if c=95 then decide (2<=s.length)&&decide (s.length<=10) && !decide (t.head?=some 48)&&t.all cU else eZ c&&t.all (λx=>eZ x||cU x))
def JQ(s:List UInt8):Bool:=
 match s with
 |[]=>false
 |c::t=>decide (s.length<=30)&&(decide (65<=c.toNat)&&decide (c.toNat<=90))&&t.all cU
def TW(i:Nat):List UInt8:=[105,UInt8.ofNat (48+i)]
def lQ(n:Int):Bool:=decide (-1000000<=n)&&decide (n<=1000000)
def nC(p:List bE):List bE->Bool
 |[]=>true
 |x::r=>iA x.v.bs && !decide (x.c=0)&&lQ x.c&&(match p.getLast? with|none=>true|some q=>Op.bytesLess q.v.bs x.v.bs)&&nC (p++[x]) r
def gV(l:Lin):Bool:=nC [] l.ts.es&&lQ l.c&&decide ((l.ts.es.length:Int)<=12)
section
variable{pg:Pg}
theorem c89(hf:pg.fs 89=some RP)(n:Int):Ret pg 89 [.int .i64 n] (.bool (lQ n)):=by
 refine Ret.ofX hf ?_;unfold RP
 repeat' (first|simp only[*,go_sem,seval]|refine cH (λ_=>?_) (λ_=>?_)|refine cJ (λ_=>?_) (λ_=>?_)|refine cB ?_)
 all_goals simp[lQ, *]
theorem c126(hf:pg.fs 126=some xH)(s p:List UInt8):Ret pg 126 [.str s,.str p] (.bool (decide (p.length<=s.length)&&decide (s.take p.length=p))):=by
 refine Ret.ofX hf ?_;unfold xH;refine Wk ?_;cases h:decide (p.length<=s.length);have h':decide ((p.length:Int)<=s.length)=false:=by simp at h ⊢;omega
 simp only[h',go_sem,seval];have h':decide ((p.length:Int)<=s.length)=true:=by simp at h ⊢;omega
 simp only[h',go_sem,seval];have h2:(0:Int)<=p.length/\(p.length:Int)<=s.length:=by simp at h;omega
 simp[iI,h2,val,XV,IV];simp only[h',h2,go_sem,seval]
theorem c91(hf:pg.fs 91=some M4)(h126:pg.fs 126=some xH)(s p:List UInt8):Ret pg 91 [.str s,.str p] (.bool (decide (p.length<=s.length)&&decide (s.take p.length=p))):=by refine Ret.ofX hf ?_;unfold M4;refine Wk ?_;refine aC (c126 h126 s p) ?_;simp only[go_sem,seval]
theorem c51(hf:pg.fs 51=some VM)(h89:pg.fs 89=some RP)(h57:∀s:Str,Ret pg 57 [.str s.bs] (.bool (iA s.bs)))(l:Lin):Ret pg 51 [l.av] (.bool (gV l)):=by
 refine Ret.ofX hf ?_;unfold VM;refine Wk ?_
 refine aN l.ts.es (λd r env hp=>hp.get 1=some (0,.blk [.int .i64 l.c,.sl l.ts.nl (l.ts.es.map bE.av) l.ts.cl] 2 true true false) /\
  env=NI (.pt 1 0 0) (.sl l.ts.nl (l.ts.es.map bE.av) l.ts.cl) (.int .i64 l.ts.es.length) (.int .i64 d.length)/\gV l=(nC d r&&lQ l.c&&decide ((l.ts.es.length:Int)<=12))) ?_ ?_ ?_
 exact⟨rfl,rfl,rfl⟩;rintro env hp ⟨h1,rfl,hq⟩;unfold NH NI;simp only[Int.lt_irrefl,h1,go_sem,seval];refine aC (c89 h89 _) ?_;simp only[h1,go_sem,seval];simp only[nC]at hq;cases h9:lQ l.c;refine Wk ?_;simp[hq,h9];simp only[h1,go_sem,seval];simp[hq,h9];rintro d x r env hp hes ⟨h1,rfl,hq⟩;have hb:=l.ts.ok;rw[hes]at hb h1 hq ⊢;unfold NH NI;refine Wk ?_;refine aC (h57 x.v) ?_;simp only[nC]at hq;refine Wk ?_;cases hn:iA x.v.bs;refine Wk ?_;refine cB ?_;simp[hq,hn];cases hc:decide (x.c=0)
 case true=>simp only[hc,go_sem,seval];refine cB ?_;simp[hq,hc]
 simp only[hc,go_sem,seval];refine aC (c89 h89 x.c) (Wk ?_);cases h9:lQ x.c;refine Wk ?_;refine cB ?_;simp[hq,h9];cases hd:decide (0<(d.length:Int));simp only[hd,cL hb,go_sem,seval];refine And.intro (by kernel_rfl) ⟨h1,rfl,?_⟩;have:d=[]:=by cases d<;>simp_all<;>omega
 subst this;simp[hq,h9,hc,hn];obtain⟨d',y,rfl⟩:∃d' y,d=d'++[y]:=by
  rcases EG d with rfl|⟨d',y,h⟩
  simp at hd;exact⟨d',y,by simpa using h⟩
 have hy:(d'++[y]++x::r)[(wr .i64 (((d'++[y]).length:Int)-1)).toNat]?=some y:=by
  have:wr .i64 (((d'++[y]).length:Int)-1)=(d'.length:Int):=by simp only[dA,List.length_cons,List.length_nil,big]at *;rw[gS (by omega) (by omega)];omega
  rw[this];simp
 have hy0:(0<=wr .i64 (((d'++[y]).length:Int)-1))=True:=by
  have:wr .i64 (((d'++[y]).length:Int)-1)=(d'.length:Int):=by simp only[dA,List.length_cons,List.length_nil,big]at *;rw[gS (by omega) (by omega)];omega
  rw[this];simp
 simp only[hd,h1,hy,hy0,go_sem,seval];cases hl:Op.bytesLess y.v.bs x.v.bs;refine Wk ?_;refine cB ?_;simp[hq,hl];simp only[cL hb,go_sem,seval];refine And.intro (by kernel_rfl) ⟨h1,rfl,?_⟩;simp[hq,h9,hc,hn,hl]
theorem El.str(s:List UInt8):El 1 false (.str s):=⟨rfl,rfl,rfl⟩
theorem El.int(n:Int):El 1 false (.int .i64 n):=⟨rfl,rfl,rfl⟩
theorem El.bool(b:Bool):El 1 false (.bool b):=⟨rfl,rfl,rfl⟩
theorem c96(hf:pg.fs 96=some RN)(l:Lin):cA pg 96 [l.av] (pP 1 false (l.ts.es.map λx => .str x.v.bs)):=by
 refine cA.ofX hf ?_;have hb:=l.ts.ok
 have hel:∀d:List bE,∀x∈d.map (λx:bE=>AV.str x.v.bs),El 1 false x:=by intro d x hx;simp only[List.mem_map]at hx;obtain⟨y,_,rfl⟩:=hx;exact El.str _
 unfold RN;refine Wk ?_;refine aN l.ts.es (λd r env hp=>∃v,env=M3 v (.sl l.ts.nl (l.ts.es.map bE.av) l.ts.cl) (.int .i64 l.ts.es.length) (.int .i64 d.length)/\Own hp 9 1 false v (d.map λx => .str x.v.bs)) ?_ ?_ ?_;exact⟨_,rfl,Own.nil _ _ _ _ _ _ rfl⟩;rintro env hp ⟨v,rfl,ho⟩;simp only[M2,M3,go_sem,seval];exact ho.conv (hel _);rintro d x r env hp hes ⟨v,rfl,ho⟩;rw[hes]at hb ⊢;simp only[M2,M3,go_sem,seval];refine m8 (kb:=0) (s:=9) (bytes:=16) (es:=d.map λx => .str x.v.bs) (ho.mono ?_) (hel _) (xs:=[.str x.v.bs]) (by intro y hy;simp at hy;subst hy;exact El.str _) ?_ (by decide) ?_;simp only[go_sem,seval];simp only[dA,List.length_cons,List.length_nil,bU,big]at *;omega;intro v' rd pa ho' hk hpa;simp only[cL hb,go_sem,seval];exact⟨v',rfl,by simpa using ho'⟩
theorem c138(hf:pg.fs 138=some sC)(nl cl:Bool)(es:List Str)(hb:es.length<=big)(v:List UInt8) :
  cA pg 138 [.sl nl (es.map Str.av) cl,.str v] (λr=>∃i:Int,r = .int .i64 i/\decide (0<=i)=es.any (λs=>decide (v=s.bs))):=
 YG (f:=138) (k:=.bin .eql) hf Str.av (λ_=>rfl) nl cl es hb (.str v) (λs=>decide (v=s.bs)) (by intro kb s h x Q t;simp only[go_sem,seval])
theorem c98(hf:pg.fs 98=some F9)(h138:pg.fs 138=some sC)(nl cl:Bool)(es:List Str)(hb:es.length<=big)(v:List UInt8) :
  Ret pg 98 [.sl nl (es.map Str.av) cl,.str v] (.bool (es.any (λs=>decide (v=s.bs)))):=
 FT (n:=138) hf (by simp only[go_sem,seval]) (c138 h138 nl cl es hb v)
def fD(vars:List Str)(v:List UInt8):Bool:=vars.any (λs=>decide (v=s.bs))
def dS(ls:List Lin)(vars:List Str):Bool:=ls.all λl=>gV l&&l.ts.es.all λx=>fD vars x.v.bs
theorem c97{f:Nat}(hf:pg.fs f=some VE)(h98:pg.fs 98=some F9)(h138:pg.fs 138=some sC)(nl cl:Bool)(es:List Str)(hb:es.length<=big)(v:List UInt8) :
  Ret pg f [.str v,.fp (.sl nl (es.map Str.av) cl)] (.bool (!fD es v)):=by
 refine Ret.ofX hf ?_;unfold VE;refine Wk ?_;refine aC (c98 h98 h138 nl cl es hb v) (Wk ?_);rfl
theorem c137(hf:pg.fs 137=some D1)(nl cl:Bool)(es:List Str)(hb:es.length<=big)(g:Nat)(cs:List AV)(hcs:treeL cs=true)(p:Str->Bool)(hp:∀x∈es,Ret pg g (x.av::cs) (.bool (p x))) :
  cA pg 137 [.sl nl (es.map Str.av) cl,.fn g cs] (λr=>∃i:Int,r = .int .i64 i/\decide (0<=i)=es.any p):=
 OW (f:=137) (esz:=1) (ag:=false) hf Str.av (λ_=>rfl) (λ_=>rfl) nl cl es hb g cs hcs p hp
theorem c95(hf:pg.fs 95=some VF)(h137:pg.fs 137=some D1)(nl cl:Bool)(es:List Str)(hb:es.length<=big)(g:Nat)(cs:List AV)(hcs:treeL cs=true)(p:Str->Bool)(hp:∀x∈es,Ret pg g (x.av::cs) (.bool (p x))) :
  Ret pg 95 [.sl nl (es.map Str.av) cl,.fn g cs] (.bool (es.any p)):=
 FT (n:=137) hf (by simp only[treeL,xV,EK,hcs,Str.treeL,Bool.and_true]) (c137 h137 nl cl es hb g cs hcs p hp)
theorem TE{f g:Nat}(hf:pg.fs f=some (aBz g))(h51:∀l:Lin,Ret pg 51 [l.av] (.bool (gV l)))(h96:pg.fs 96=some RN)(h95:pg.fs 95=some VF)(h137:pg.fs 137=some D1)(h97:pg.fs g=some VE)(h98:pg.fs 98=some F9)(h138:pg.fs 138=some sC)
  (nl cl:Bool) (ls:List Lin) (hb:ls.length<=big) (nl' cl':Bool) (vars:List Str) (hb':vars.length<=big):Ret pg f [.sl nl (ls.map Lin.av) cl,.sl nl' (vars.map Str.av) cl'] (.bool (dS ls vars)):=by
 refine Ret.ofX hf ?_;unfold aBz;refine Wk ?_;refine eO ls (λd e=>eI e (some 9) (.int .i64 d.length)) (λd r hp=>(∃fz,hp.get 1=some (0,.blk [.sl nl' (vars.map Str.av) cl'] 1 false true fz))/\dS ls vars=dS r vars) rfl ?_ ?_ ?_;exact⟨⟨_,rfl⟩,rfl⟩;rintro hp ⟨⟨fz,h1⟩,hI⟩;simp only[L9,L8,go_sem,seval];rw[hI];rfl;rintro d x r hp hes ⟨⟨fz,h1⟩,hI⟩;subst hes;simp only[L9,L8,go_sem,seval];refine aC (h51 x) (Wk ?_);cases hx:gV x;refine Wk ?_;rw[hI];simp[dS,hx];refine Wk ?_;refine qQ (c96 h96 x) (by simp only[go_sem,seval]) ?_;intro nl2 cl2 hnl;refine Wk ?_;have hv:∀y∈x.ts.es.map (λc=>c.v),Ret pg g (y.av::[.fp (.sl nl' (vars.map Str.av) cl')]) (.bool (!fD vars y.bs)):=λy _=>c97 h97 h98 h138 nl' cl' vars hb' y.bs;have h9:=c95 h95 h137 nl2 cl2 (x.ts.es.map λc=>c.v) (by have:=x.ts.ok;simpa using this) g [.fp (.sl nl' (vars.map Str.av) cl')] (by simp only[go_sem,seval]) (λy => !fD vars y.bs) hv;have hm:List.map (λx=>AV.str x.v.bs) x.ts.es=List.map Str.av (x.ts.es.map λc=>c.v):=by simp[Str.av]
 rw[hm];refine i7 (h9) (by simp only[ h1,depth,iK,eG,pF,go_sem,seval];rfl) (by first|rfl|simp only[hY]) (Wk ?_)
 have hany:(List.map (λc=>c.v) x.ts.es).any (λy => !fD vars y.bs) = !(x.ts.es.all λc=>fD vars c.v.bs):=by simp[List.any_map,List.not_all_eq_any_not];rfl
 rw[hany];cases hy:x.ts.es.all λc=>fD vars c.v.bs;refine Wk ?_;rw[hI];simp[dS,hx,hy];simp only[h1,cL hb,go_sem,seval];exact⟨⟨fz,rfl⟩,by simpa[dS,hx,hy] using hI⟩
def gY(x y:bE):Bool:=decide (x.v.bs=y.v.bs)&&decide (x.c=y.c)
def fZ(a b:Lin):Bool:=decide (a.c=b.c)&&eqL gY a.ts.es b.ts.es
def lZ(a b:bV):Bool:=decide (a.row.bs=b.row.bs)&&eqL fZ a.dims.es b.dims.es
def aHT(a b:Typ):Bool:=decide (a.elem.bs=b.elem.bs)&&lZ a.shape b.shape
theorem c106(hf:pg.fs 106=some PX)(nl cl nl' cl':Bool)(es es':List bE)(hb:es.length<=big):Ret pg 106 [.sl nl (es.map bE.av) cl,.sl nl' (es'.map bE.av) cl'] (.bool (eqL gY es es')):=
 aGq (f:=106) (k:=.eqs true [1,0]) hf bE.av (λ_=>by simp only[go_sem,seval]) nl cl nl' cl' es es' hb gY (by intro kb s h x y Q t;simp only[go_sem,seval];simp[gY]) rfl
theorem c143(hf:pg.fs 143=some PW)(h106:pg.fs 106=some PX)(a b:Lin):Ret pg 143 [a.av,b.av] (.bool (fZ a b)):=by refine Ret.ofX hf ?_;unfold PW;refine Wk ?_;cases h:decide (a.c=b.c);refine Wk ?_;simp[fZ,h];refine Wk ?_;refine aC (c106 h106 _ _ _ _ a.ts.es b.ts.es a.ts.ok) (Wk ?_);simp[fZ,h]
end
end
section
def eF:List UInt8:=[105,110,116]
def kF:List UInt8:=[98,111,111,108]
def sA:List UInt8:=[65]
structure pO where
 op:List UInt8
 params:List (List UInt8)
 result:List UInt8
def fL:List pO:=[
 ⟨[97,100,100],[eF,eF],eF⟩,⟨[115,117,98],[eF,eF],eF⟩,⟨[109,117,108],[eF,eF],eF⟩,⟨[100,105,118],[eF,eF],eF⟩,⟨[109,111,100],[eF,eF],eF⟩,
 ⟨[109,105,110],[eF,eF],eF⟩,⟨[109,97,120],[eF,eF],eF⟩,⟨[110,101,103],[eF],eF⟩,⟨[97,98,115],[eF],eF⟩,⟨[115,105,103,110],[eF],eF⟩,
 ⟨[108,116],[eF,eF],kF⟩,⟨[108,101],[eF,eF],kF⟩,⟨[103,116],[eF,eF],kF⟩,⟨[103,101],[eF,eF],kF⟩,⟨[101,113],[sA,sA],kF⟩,⟨[110,101],[sA,sA],kF⟩,
 ⟨[97,110,100],[kF,kF],kF⟩,⟨[111,114],[kF,kF],kF⟩,⟨[120,111,114],[kF,kF],kF⟩,⟨[110,111,116],[kF],kF⟩,
 ⟨[115,101,108,101,99,116],[kF,sA,sA],sA⟩,⟨[116,111,105,110,116],[kF],eF⟩]
def pO.cells(r:pO):List AV:=[.str r.op,.sl false (r.params.map .str) true,.str r.result]
def S0:AV:=.agg (fL.flatMap pO.cells)
def cX(op:List UInt8):Option pO:=fL.find? λr=>decide (r.op=op)
section
variable{pg:Pg}
theorem c107(hf:pg.fs 107=some D4)(nl cl:Bool)(es:List AV)(hel:∀x∈es,El 1 false x)(hb:es.length<=big)(hnl:nl=true->es=[]):cA pg 107 [.sl nl es cl] (pP 1 false es):=by refine cA.ofX hf ?_;unfold D4;refine Wk ?_;cases nl;refine Wk ?_;refine m8 (kb:=0) (s:=1) (bytes:=16) (es:=[]) (xs:=es) (Own.nil _ _ _ _ _ _ rfl) (by simp) hel ?_ (by decide) ?_;simp only[List.length_nil,big]at *;omega;intro v' rd pa ho hk hpa;refine Wk ?_;exact ho.conv (by simpa using hel);refine Wk ?_;exact .inl ⟨hnl rfl,true,true,rfl,rfl⟩
theorem c177(hf:pg.fs 177=some pH):Ret pg 177 [] S0:=
 Ret.closed (.n 177 pH .e .e) (by intro f cf h;have:=BT.All.find (p:=λf cf=>pg.fs f=some cf) (t:=.n 177 pH .e .e) ⟨hf,trivial,trivial⟩ h;exact this) 2 (by kernel_rfl)
theorem aEV(d:List pO)(x:pO)(r:List pO):fM ((d++x::r).flatMap pO.cells) (d.length*3) 3 true=some (.agg x.cells):=by
 have hl:∀l:List pO,(l.flatMap pO.cells).length=l.length*3:=by
  intro l
  induction l with
  |nil=>rfl
  |cons y s ih=>simp[pO.cells,ih];omega
 rw[CM,if_pos (by rw[hl];simp;omega)];rw[List.flatMap_append,List.drop_append_of_le_length (by rw[hl];omega),List.drop_eq_nil_of_le (by rw[hl];omega),List.nil_append];rw[List.flatMap_cons];have:x.cells.length=3:=rfl;rw[<-this,List.take_left]
def iP(op:List UInt8)(r:AV):Prop:=
 match cX op with
 |none=>r = .tup [.sl true [] true,.str [],.bool false]
 |some p=>∃nl cl,r = .tup [.sl nl (p.params.map .str) cl,.str p.result,.bool true]
theorem c140(hf:pg.fs 140=some KW)(h177:pg.fs 177=some pH)(h107:pg.fs 107=some D4)(op:List UInt8):cA pg 140 [.str op] (iP op):=by
 refine cA.ofX hf ?_;unfold KW;refine Wk ?_;refine aC (c177 h177) (Wk ?_);have h22:(22:Int)=fL.length:=rfl;refine eO fL (λd e=>eI e (some 8) (.int .i64 d.length)) (λd r hp=>cX op=r.find? λx=>decide (x.op=op)) rfl ?_ ?_ ?_;rfl;intro hp hI;simp only[HI,HH,<-h22,go_sem,seval];simp[iP,hI];intro d x r hp hes hI;have hlt:decide ((d.length:Int)<22)=true:=by rw[h22,hes];exact aBB d x r
 have hlt':((d.length:Int)<22)=True:=by simpa using hlt
 have hpa:fM (fL.flatMap pO.cells) (d.length*3) 3 true=some (.agg x.cells):=by rw[hes];exact aEV d x r
 have hb:(d++x::r).length<=big:=by rw[<-hes];decide
 have hlt'':((d.length:Int)<((22:Nat):Int))=True:=by simpa using hlt
 simp only[HI,HH,S0,hlt,hlt',hlt'',hpa,pO.cells,go_sem,seval];cases hx:decide (x.op=op);simp only[cL hb,go_sem,seval];simpa[List.find?_cons,hx] using hI;refine Wk ?_;have hel:∀y∈x.params.map AV.str,El 1 false y:=by intro y hy;simp only[List.mem_map]at hy;obtain⟨z,_,rfl⟩:=hy;exact El.str z
 have hI':cX op=some x:=by simpa[List.find?_cons,hx] using hI
 refine P5 (c107 h107 false true (x.params.map .str) hel ?_ (by simp)) ?_ hel ?_ ?_;have:∀y∈fL,y.params.length<=big:=by decide
 simpa using this x (by rw[hes];simp);simp only[treeL,xV,Bool.and_true];exact bQ (f:=AV.str) (λ_=>rfl) x.params;intro hnil nl cl _;refine Wk ?_;refine cB ?_;simp only[iP,hI'];exact⟨nl,cl,by rw[hnil]⟩;intro cs hcs hch;refine Wk ?_;refine cB ?_;have htr:treeL (x.params.map AV.str)=true:=bQ (f:=AV.str) (λ_=>rfl) x.params;have hms:∀h,mapS (snap 62 h) (x.params.map AV.str)=some (x.params.map AV.str,[]):=λh=>eK 61 h htr;have hch':kA 1 false x.params.length cs=some (x.params.map AV.str):=by simpa using hch
 simp only[hms,hch',iP,hI',conv,depth,pF,iK,eG,go_sem,seval];exact⟨false,_,rfl⟩
def eP(n:Int):Bool:=decide (-2147483648<=n)&&decide (n<=2147483647)
def kO(n:Int):Bool:=decide (n=0)||decide (n=1)
theorem aEF(hf:pg.fs 148=some uQ)(n:Int):Ret pg 148 [.str [105,110,116],.int .i64 n] (.bool (eP n)):=by
 refine Ret.ofX hf ?_;unfold uQ
 repeat' (first|simp only[*,go_sem,seval]|refine cH (λ_=>?_) (λ_=>?_)|refine cJ (λ_=>?_) (λ_=>?_)|refine cB ?_)
 all_goals simp[eP, *]
theorem aKO(hf:pg.fs 148=some uQ)(n:Int):Ret pg 148 [.str [98,111,111,108],.int .i64 n] (.bool (kO n)):=by
 refine Ret.ofX hf ?_;unfold uQ;refine Wk ?_;simp only[show decide (([98,111,111,108]:List UInt8)=[105,110,116])=false by decide]
 repeat' (first|simp only[*,go_sem,seval]|refine cH (λ_=>?_) (λ_=>?_)|refine cJ (λ_=>?_) (λ_=>?_)|refine cB ?_)
 all_goals simp[kO, *]
def gQ(l:List Int)(n:Int):Bool:=l.all λa=>decide (0<=a)&&decide (a<n)
def eV(s:aE)(n:Int):Bool:=
 if s.op.bs=[99,111,110,115,116] then decide ((s.args.es.length:Int)=0)&&eP s.num
 else if s.op.bs=[116,114,117,116,104] then decide ((s.args.es.length:Int)=0)&&kO s.num
 else match cX s.op.bs with
  |none=>false
  |some p=>gQ s.args.es n&&decide (s.num=0)&&decide ((s.args.es.length:Int)=(p.params.length:Int))
theorem c111(hf:pg.fs 111=some K6)(h148:pg.fs 148=some uQ)(h140:∀op,cA pg 140 [.str op] (iP op))(s:aE)(n:Int):Ret pg 111 [s.av,.int .i64 n] (.bool (eV s n)):=by
 refine Ret.ofX hf ?_;have hb:=s.args.ok;unfold K6;refine Wk ?_;cases h1:decide (s.op.bs=[99,111,110,115,116])
 case true=>refine Wk ?_;cases h2:decide ((s.args.es.length:Int)=0);simp only[h2,go_sem,seval];simp at h1 h2;simp[eV,h1,h2];simp only[h2,go_sem,seval];refine aC (aEF h148 s.num) (Wk ?_);simp at h1 h2;simp[eV,h1,h2]
 refine Wk ?_;cases h3:decide (s.op.bs=[116,114,117,116,104])
 case true=>refine Wk ?_;cases h2:decide ((s.args.es.length:Int)=0);simp only[h2,go_sem,seval];simp at h1 h2 h3;simp[eV,h1,h2,h3];simp only[h2,go_sem,seval];refine aC (aKO h148 s.num) (Wk ?_);simp at h1 h2 h3;simp[eV,h1,h2,h3]
 refine Wk ?_;obtain⟨r,hr,hP⟩:=h140 s.op.bs
 have hspec:eV s n=match cX s.op.bs with
  |none=>false
  |some p=>gQ s.args.es n&&decide (s.num=0)&&decide ((s.args.es.length:Int)=(p.params.length:Int)):=by
  simp at h1 h3;simp[eV,h1,h3]
 generalize eV s n=res at hspec ⊢;obtain⟨nl,cl,ps,rs,ok,rfl,hres⟩:∃nl cl,∃ps:List (List UInt8),∃rs ok,r = .tup [.sl nl (ps.map .str) cl,.str rs,.bool ok]/\res=(ok&&gQ s.args.es n&&decide (s.num=0)&&decide ((s.args.es.length:Int)=(ps.length:Int))):=by
  unfold iP at hP;cases hp:cX s.op.bs with
  |none=>rw[hp]at hP hspec;exact⟨_,_,[],_,_,hP,by simp[hspec]⟩
  |some p=>rw[hp]at hP hspec;obtain⟨nl,cl,hP⟩:=hP;exact⟨_,_,p.params,_,_,hP,by simp[hspec]⟩
 refine aC hr (Wk ?_)
 refine eO s.args.es (λd e=>eI (eI e (some 44) (.int .i64 d.length)) (some 7) (.bool (ok&&gQ d n))) (λd r hp=>(∃fz,hp.get 1=some (0,.blk [.str s.op.bs,.int .i64 s.num,.sl s.args.nl (s.args.es.map aH) s.args.cl] 3 true true fz)))
  (by have h0:(ok&&gQ [] n)=ok:=by simp[gQ]
      rw[h0];rfl) ?_ ?_ ?_
 exact⟨_,rfl⟩;rintro hp ⟨fz,h1⟩;simp only[HM,HL,go_sem,seval];cases h4:ok&&gQ s.args.es n;simp only[h4,h1,go_sem,seval];simp[hres,h4];cases h5:decide (s.num=0);simp only[h1,h5,go_sem,seval];simp[hres,h4,h5];simp only[h1,h5,go_sem,seval];simp[hres,h4,h5]
 ·rintro d x r hp hes ⟨fz,h1⟩;rw[hes]at hb h1 ⊢;have hx:(ok&&gQ (d++[x]) n)=((ok&&gQ d n)&&(decide (0<=x)&&decide (x<n))):=by simp[gQ,Bool.and_assoc]
  rw[hx];cases hA:(ok&&gQ d n)<;>cases hB:decide (0<=x)<;>cases hC:decide (x<n)
  all_goals simp only[HM,HL,hA,hB,hC,cL hb,go_sem,seval]
  all_goals exact⟨fz,h1⟩
end
end
section
def aLe(s:List UInt8):Bool:=
 match s with
 | c::d::t=>(decide ((c.toNat:Int)=105)||decide ((c.toNat:Int)=106))&&(d::t).all cU
 |_=>false
def XJ(s:bV):Bool:=(decide (s.row.bs=[])||iA s.row.bs)&&decide ((s.dims.es.length:Int)<=6)&&s.dims.es.all gV
def aHS(t:Typ):Bool:=(decide (t.elem.bs=[105,110,116])||decide (t.elem.bs=[98,111,111,108])||JQ t.elem.bs)&&XJ t.shape
def W9(t:Typ)(vars:List Str):Bool:=aHS t && !JQ t.elem.bs&&decide (t.shape.row.bs=[])&&dS t.shape.dims.es vars
def SK(p:List Str):List Str->Bool
 |[]=>true
 |x::r=>iA x.bs && !aLe x.bs&&(match p.getLast? with|none=>true|some q=>Op.bytesLess q.bs x.bs)&&SK (p++[x]) r
section
variable{pg:Pg}
theorem c205(hf:pg.fs 205=some PT)(nl cl:Bool)(es:List Lin)(hb:es.length<=big)(g:Nat)(cs:List AV)(hcs:treeL cs=true)(p:Lin->Bool)(hp:∀x∈es,Ret pg g (x.av::cs) (.bool (p x))) :
  cA pg 205 [.sl nl (es.map Lin.av) cl,.fn g cs] (λr=>∃i:Int,r = .int .i64 i/\decide (0<=i)=es.any p):=
 OW (f:=205) (esz:=2) (ag:=true) hf Lin.av (λ_=>by simp only[go_sem,seval]) (λ_=>by simp only[go_sem,seval]) nl cl es hb g cs hcs p hp
theorem c175(hf:pg.fs 175=some VT)(h205:pg.fs 205=some PT)(nl cl:Bool)(es:List Lin)(hb:es.length<=big)(g:Nat)(cs:List AV)(hcs:treeL cs=true)(p:Lin->Bool)(hp:∀x∈es,Ret pg g (x.av::cs) (.bool (p x))) :
  Ret pg 175 [.sl nl (es.map Lin.av) cl,.fn g cs] (.bool (es.any p)):=
 FT (n:=205) hf (by simp only[treeL,xV,EK,hcs,Lin.treeL_av,Bool.and_true]) (c205 h205 nl cl es hb g cs hcs p hp)
def vF(k:aG):Bool:=
 SK [] k.vars.es&&(decide ((k.vars.es.length:Int)<=12)&&dS k.wher.es k.vars.es&&decide (0<=k.inputs)&&decide (k.inputs<=8)&&decide (k.inputs<=k.values.es.length)&&decide ((k.values.es.length:Int)<=k.inputs+400) &&
  decide ((k.list.es.length:Int)<=400)&&k.values.es.all λt=>W9 t k.vars.es)
end
end
section
def bZ(n:Int):List aE->Bool
 |[]=>true
 |s::r=>eV s n&&bZ (n+1) r
def cC(fn:List aE)(n:Int):Bool:=decide (0<=n)&&decide (n<=20)&&decide ((fn.length:Int)<=60) && !decide (n+fn.length=0)&&bZ n fn
def dC(p:aA)(a b c d e f:Bool):Bool:=
 (a||decide (p.num=0))&&(b||decide (p.value=0))&&(c||decide (p.name.bs=[]))&&(d||decide ((p.at_.es.length:Int)=0))&&(e || !p.dyn&&decide (p.check=0))&&(f||decide ((p.fn.es.length:Int)=0))
def lN(p:aA)(values:Int):Bool:=
 dC p false true false true true false&&decide (0<=p.value)&&decide (p.value<values)&&decide (0<=p.check) &&
  (if p.dyn then decide ((p.at_.es.length:Int)<=5)&&decide ((p.kids.length:Int)=1) else decide ((p.at_.es.length:Int)<=6)&&decide ((p.kids.length:Int)=0)&&decide (p.check=0))
section
variable{pg:Pg}
theorem c70(hf:pg.fs 70=some VJ)(h111:∀(s:aE) (n:Int),Ret pg 111 [s.av,.int .i64 n] (.bool (eV s n)))(nl cl:Bool)(fn:List aE)(hb:fn.length<=big)(n:Int) :
  Ret pg 70 [.sl nl (fn.map aE.av) cl,.int .i64 n] (.bool (cC fn n)):=by
 refine Ret.ofX hf ?_;unfold VJ;refine Wk ?_;cases h1:decide (n<0)
 case true=>
  simp only[h1,go_sem,seval];simp at h1;have:decide (0<=n)=false:=by simp;omega
  simp[cC,this]
 simp only[h1,go_sem,seval];cases h2:decide (20<n)
 case true=>
  simp only[h2,go_sem,seval];simp at h2;have:decide (n<=20)=false:=by simp;omega
  simp[cC,this]
 simp only[h2,go_sem,seval];cases h3:decide (60<(fn.length:Int))
 case true=>
  simp only[h3,go_sem,seval];simp at h3;have:decide ((fn.length:Int)<=60)=false:=by simp;omega
  simp[cC,this]
 simp only[mE]at h1 h2;have hw:wr .i64 (n+fn.length)=n+fn.length:=by simp only[big]at hb;exact gS (by omega) (by omega)
 simp only[h3,hw,go_sem,seval];cases h4:decide (n+(fn.length:Int)=0)
 case true=>simp only[h4,go_sem,seval];simp[cC,h4]
 simp only[h4,go_sem,seval];have hspec:cC fn n=bZ n fn:=by
  simp only[mE]at h3;have e1:decide (0<=n)=true:=by simp;omega
  have e2:decide (n<=20)=true:=by simp;omega
  have e3:decide ((fn.length:Int)<=60)=true:=by simp;omega
  simp[cC,h4,e1,e2,e3]
 rw[hspec];refine eO fn (λd e=>eI e (some 27) (.int .i64 d.length)) (λd r hp=>bZ n fn=bZ (n+d.length) r) rfl ?_ ?_ ?_;simp;intro hp hI;simp only[NA,M9,go_sem,seval];rw[hI];rfl;intro d x r hp hes hI;subst hes;have hw:wr .i64 (n+d.length)=n+d.length:=by simp only[big,dA,List.length_cons]at hb;exact gS (by omega) (by omega)
 simp only[NA,M9,go_sem,seval];rw[hw];refine aC (h111 x _) (Wk ?_);cases hx:eV x (n+d.length);refine Wk ?_;rw[hI];simp[bZ,hx];simp only[cL hb,go_sem,seval];rw[hI];simp[bZ,hx,Int.add_assoc]
theorem RX(hf:pg.fs 206=some lL)(p:aA):Ret pg 206 [p.av,.bool false,.bool true,.bool false,.bool true,.bool true,.bool false] (.bool (dC p false true false true true false)):=by
 refine Ret.ofX hf ?_;unfold lL
 repeat' (first|simp only[*,go_sem,seval]|refine cH (λ_=>?_) (λ_=>?_)|refine cJ (λ_=>?_) (λ_=>?_)|refine cB ?_)
 all_goals (simp_all [dC])
theorem N3(hf:pg.fs 206=some lL)(p:aA):Ret pg 206 [p.av,.bool true,.bool false,.bool false,.bool false,.bool false,.bool false] (.bool (dC p true false false false false false)):=by
 refine Ret.ofX hf ?_;unfold lL
 repeat' (first|simp only[*,go_sem,seval]|refine cH (λ_=>?_) (λ_=>?_)|refine cJ (λ_=>?_) (λ_=>?_)|refine cB ?_)
 all_goals (simp_all [dC])
theorem WA(hf:pg.fs 206=some lL)(p:aA):Ret pg 206 [p.av,.bool false,.bool false,.bool false,.bool true,.bool false,.bool false] (.bool (dC p false false false true false false)):=by
 refine Ret.ofX hf ?_;unfold lL
 repeat' (first|simp only[*,go_sem,seval]|refine cH (λ_=>?_) (λ_=>?_)|refine cJ (λ_=>?_) (λ_=>?_)|refine cB ?_)
 all_goals (simp_all [dC])
theorem V9(hf:pg.fs 206=some lL)(p:aA):Ret pg 206 [p.av,.bool false,.bool false,.bool true,.bool true,.bool false,.bool true] (.bool (dC p false false true true false true)):=by
 refine Ret.ofX hf ?_;unfold lL
 repeat' (first|simp only[*,go_sem,seval]|refine cH (λ_=>?_) (λ_=>?_)|refine cJ (λ_=>?_) (λ_=>?_)|refine cB ?_)
 all_goals (simp_all [dC])
theorem RZ(hf:pg.fs 206=some lL)(p:aA):Ret pg 206 [p.av,.bool false,.bool false,.bool false,.bool false,.bool false,.bool true] (.bool (dC p false false false false false true)):=by
 refine Ret.ofX hf ?_;unfold lL
 repeat' (first|simp only[*,go_sem,seval]|refine cH (λ_=>?_) (λ_=>?_)|refine cJ (λ_=>?_) (λ_=>?_)|refine cB ?_)
 all_goals (simp_all [dC])
theorem aAX(hf:pg.fs 206=some lL)(p:aA):Ret pg 206 [p.av,.bool false,.bool false,.bool false,.bool false,.bool false,.bool false] (.bool (dC p false false false false false false)):=by
 refine Ret.ofX hf ?_;unfold lL
 repeat' (first|simp only[*,go_sem,seval]|refine cH (λ_=>?_) (λ_=>?_)|refine cJ (λ_=>?_) (λ_=>?_)|refine cB ?_)
 all_goals (simp_all [dC])
theorem c207(hf:pg.fs 207=some DW)(h206:pg.fs 206=some lL)(p:aA)(hp:p.kids.length<=big)(v:Int) :
  Ret pg 207 [p.av,.int .i64 v] (.bool (lN p v)):=by
 have h6:=RX h206 p;rw[aA.avc]at h6;refine Ret.ofX hf ?_;unfold DW;clear h206
 repeat' (first|simp only[*,go_sem,seval]|refine cH (λ_=>?_) (λ_=>?_)|refine cJ (λ_=>?_) (λ_=>?_)|(refine aC h6 ?_)|refine cB ?_)
 all_goals (clear h6)
 all_goals (simp_all [lN])
 all_goals (try omega)
end
end
section
mutual
theorem aA.ind'{P:aA->Prop}(h:∀p:aA,(∀q∈p.kids,P q)->P p):∀p,P p
 |.mk op num value name at_ dyn check fn knl kids kcl=>h _ (aA.inds h kids)
theorem aA.inds{P:aA->Prop}(h:∀p:aA,(∀q∈p.kids,P q)->P p):∀l:List aA,∀q∈l,P q
 |[]=>by simp
 |x::r=>List.forall_mem_cons.2 ⟨aA.ind' h x,aA.inds h r⟩
end
mutual
def kX:aA->Int
 |.mk _ _ _ _ _ _ _ _ _ kids _=>jS 1 kids
def jS(a:Int):List aA->Int
 |[]=>a
 |p::r=>jS (wr .i64 (a+kX p)) r
end
theorem CO(p:aA):kX p=jS 1 p.kids:=by cases p;rw[kX];rfl
theorem qC:∀(d:List aA)(a:Int)(x:aA),jS a (d++[x])=wr .i64 (jS a d+kX x)
 |[],a,x=>by simp[jS]
 |y::d,a,x=>by simp only[List.cons_append,jS];exact qC d _ x
section
variable{pg:Pg}
theorem c146(hf:pg.fs 146=some D0):∀p:aA,p.ok->Ret pg 146 [p.av] (.int .i64 (kX p)):=by refine aA.ind' λp ih hp=>?_;obtain⟨hb,hk⟩:=(aA.ok_iff p).1 hp;refine Ret.ofX hf ?_;unfold D0;refine Wk ?_;refine eO p.kids (λd e=>eI (eI e (some 9) (.int .i64 d.length)) (some 3) (.int .i64 (jS 1 d))) (λd r hp=>True) (by simp only[jS];rfl) trivial ?_ ?_;rintro hp -;simp only[HG,HF,go_sem,seval];exact(CO p).symm;rintro d x r hp hes -;have hx:=ih x (by rw[hes];simp) (hk x (by rw[hes];simp));rw[hes]at hb;rw[hes];rw[aA.avc]at hx;simp only[HG,HF,go_sem,seval];refine aC (hx) ?_;simp only[cL hb,qC,go_sem,seval]
theorem c209(hf:pg.fs 209=some BC)(n:Nat)(h0:0<n)(hb:n<=1073741824):cA pg 209 [.sl true [] true,.int .i64 n] (pP 1 false []):=by
 refine cA.ofX hf ?_;have e1:decide ((n:Int)<0)=false:=by simp
 have e2:decide ((0:Int)<n)=true:=by simp;omega
 have e3:wr .i64 (n:Int)=n:=gS (by omega) (by omega);have e4:wr .i64 (0:Int)=0:=rfl;unfold BC;simp only[e1,iI,iH,Int.sub_zero,Int.sub_self,e3,e4,e2,Option.getD_none,go_sem,seval]
 have hz:XO pg 0 (.apz 1 false 16 [.str []]) 1 [] [.sl true [] true,.int .i64 (n:Int)]=λQ _=>Q (.rf 1 0 0 n n) (.pat [1] [⟨1,0,.blk (List.replicate n [.str []]).flatten 1 false false false⟩]):=by
  funext Q t;have hn:n≠0:=by omega
  show WO pg 0 _ 1 [] _ Q=_;rw[cQ rfl];have ha:bL [AV.str []]=true:=rfl;have hb':(n:Int)<=1073741824:=by omega
  simp[FA,UR,hb,hb',ha,i6,hn,IV,aV,Hp.next,OX]
 rw[hz];simp only[iI,iH,Option.getD_none,Option.getD_some,go_sem,seval];simp only[XV,IV,Option.getD_none,Option.getD_some,Option.isNone_none,Bool.or_true,Int.toNat_zero,Nat.sub_zero];rw[if_pos (by simp)];refine Wk ?_;simp only[kA,List.drop_zero,conv,depth,pF,iK,eG,go_sem,seval];exact⟨_,by simp,.inr rfl⟩
theorem El.strs(l:List Str):∀x∈l.map Str.av,El 1 false x:=by intro x hx;simp only[List.mem_map]at hx;obtain⟨y,_,rfl⟩:=hx;exact⟨rfl,rfl,rfl⟩
theorem c184(hf:pg.fs 184=some DX)(h209:pg.fs 209=some BC)(nl cl:Bool)(vars:List Str)(s:Str)(hb:vars.length<=big) :
  cA pg 184 [.sl false [.sl nl (vars.map Str.av) cl,.sl false [.str s.bs] true] true] (pP 1 false ((vars++[s]).map Str.av)):=by
 refine cA.ofX hf ?_;simp only[big]at hb;have e1:wr .i64 (vars.length:Int)=vars.length:=gS (by omega) (by omega);have e2:wr .i64 ((vars.length:Int)+1)=((vars.length+1:Nat):Int):=by rw[gS (by omega) (by omega)];omega
 have e3:decide ((vars.length:Int)<0)=false:=by simp
 have e4:decide ((((vars.length+1:Nat):Int))<0)=false:=by simp;omega
 have e5:wr .i64 1=1:=rfl;have e6:wr .i64 2=2:=rfl;have e7:((1:Int).toNat)=1:=rfl;have e8:(((2:Nat):Int))=2:=rfl;have e13:(((1:Nat):Int))=1:=rfl;have e9:decide ((0:Int)<2)=true:=rfl;have e10:decide ((1:Int)<2)=true:=rfl;have e11:decide ((2:Int)<2)=false:=rfl;have e12:((0:Int)<=1)=True:=by simp
 unfold DX;refine Wk ?_;rw[nP];simp only[yO,yN,e1,e3,Int.zero_add,e5,e8,e9,go_sem,seval];rw[nP];simp only[yO,yN,e13,e2,e4,e5,e6,e7,e8,e10,e12,Int.reduceAdd,go_sem,seval];rw[nP];simp only[yO,yN,e8,e11,go_sem,seval];refine WL (c209 h209 (vars.length+1) (by omega) (by omega)) (by simp only[go_sem,seval]) (by simp) ?_;intro v rd pa ho hk hpa;refine Wk ?_;rw[nP];simp only[uN,uM,e8,e9,go_sem,seval];have hcat:∀v':AV,∀hp:Hp,Own hp 5 1 false v' (vars.map Str.av++[.str s.bs])->∃r,conv hp v'=some r/\pP 1 false ((vars++[s]).map Str.av) r:=by intro v' hp ho';have:=ho'.conv (by have:=El.strs (vars++[s]);simpa[Str.av] using this);simpa[Str.av] using this
 have hfin:∀(v':AV)(hp:Hp),(Own hp 1 1 false v' (vars.map Str.av)/\vars=[])\/Own hp 5 1 false v' (vars.map Str.av) ->
   ∀(Q:AV->Eff->Prop)(t:Tok Q),(∀v2 rd pa,Own (Eff.app hp (.pat rd pa)) 5 1 false v2 (vars.map Str.av++[.str s.bs])->Q v2 (.pat rd pa))->XO pg 0 (.app 1 false 16) 5 hp [v',.sl false [.str s.bs] true] Q t:=by
  intro v' hp hor Q t hq;have hs:∀x∈[AV.str s.bs],El 1 false x:=by intro x hx;simp at hx;subst hx;exact⟨rfl,rfl,rfl⟩
  rcases hor with ⟨ho',hv⟩|ho';exact P6 (kb:=0) (s:=5) ho' (by decide) (El.strs vars) hs (by simp;omega) (by omega) (λh=>by simp at h) (λ_ v2 rd pa h _=>hq v2 rd pa h);exact m8 (kb:=0) (s:=5) ho' (El.strs vars) hs (by simp;omega) (by omega) (λv2 rd pa h _ _=>hq v2 rd pa h)
 have hrest:∀(v':AV)(hp:Hp),(Own hp 1 1 false v' (vars.map Str.av)/\vars=[])\/Own hp 5 1 false v' (vars.map Str.av)->∀env:List AV,
   clear uM env=PU v' (.sl false [.sl nl (vars.map Str.av) cl,.sl false [.str s.bs] true] true) (.int .i64 2) (.int .i64 1) ->
   XX pg 0 (.loop uN uM) ⟨env,hp⟩ (nZ 2 (lG (λst'=>XX pg 0 ((C.reg [⟨some 35,.mov,[.t 6],none,0,0⟩,⟨some 2,.mov,[.t 35],none,0,0⟩] false).seq C.ret) st' (UZ [Sum.inl 2] (pP 1 false ((vars++[s]).map Str.av))) ⟨⟩) (UZ [Sum.inl 2] (pP 1 false ((vars++[s]).map Str.av))))) ⟨⟩:=by
  intro v' hp hor env henv;rw[nP,henv];simp only[uN,PU,e8,e10,e7,e12,go_sem,seval];refine hfin v' hp hor _ _ ?_;intro v2 rd pa ho2;simp only[e6,e5,go_sem,seval];rw[nP];simp only[uN,uM,e8,e11,Int.reduceAdd,e6,go_sem,seval];exact hcat _ _ ho2
 refine P6 (kb:=0) (s:=5) (k1:=1) ho (by decide) (by simp) (El.strs vars) (by simp;omega) (by omega) ?_ ?_;intro hx rd;have hv:vars=[]:=by simpa using hx
 simp only[e5,go_sem,seval];exact hrest v _ (.inl ⟨by rw[hv];exact ho,hv⟩) _ rfl;intro _ v' rd' pa' ho' _;simp only[e5,go_sem,seval];exact hrest v' _ (.inr (by simpa using ho')) _ rfl
end
end
section
def cF(p:aA)(vars:List Str)(values:Int):Bool:=
 if p.op.bs=[99,111,110,115,116] then dC p true false false false false false&&decide ((p.kids.length:Int)=0)&&eP p.num
 else if p.op.bs=[108,105,110,101,97,114] then dC p false false false true false false&&decide ((p.kids.length:Int)=0)&&decide ((p.at_.es.length:Int)=1)
 else if p.op.bs=[114,101,97,100] then lN p values
 else if p.op.bs=[105,102] then dC p false false false true false false&&decide ((p.kids.length:Int)=2)&&decide ((p.at_.es.length:Int)=1)
 else if p.op.bs=[114,101,100,117,99,101] then dC p false false true true false true&&decide ((p.kids.length:Int)=2)&&decide ((p.at_.es.length:Int)=1)&&iA p.name.bs && !fD vars p.name.bs&&cC p.fn.es 2
 else if p.op.bs=[99,111,100,101] then dC p false false false false false true&&cC p.fn.es p.kids.length
 else match cX p.op.bs with
  |none=>false
  |some q=>dC p false false false false false false&&decide ((p.kids.length:Int)=(q.params.length:Int))
section
variable{pg:Pg}
set_option maxHeartbeats 1000000 in
theorem c182(hname:∀s:Str,Ret pg 57 [.str s.bs] (.bool (iA s.bs)))(hf:pg.fs 182=some KT)(h206:pg.fs 206=some lL)(h148:pg.fs 148=some uQ)(h207:pg.fs 207=some DW)(h98:pg.fs 98=some F9)(h138:pg.fs 138=some sC)
  (h70:∀(nl cl:Bool)(fn:List aE),fn.length<=big->∀n:Int,Ret pg 70 [.sl nl (fn.map aE.av) cl,.int .i64 n] (.bool (cC fn n))) (h140:∀op,cA pg 140 [.str op] (iP op))
  (p:aA) (hk:p.kids.length<=big) (nl cl:Bool) (vars:List Str) (hb:vars.length<=big) (v:Int):Ret pg 182 [p.av,.sl nl (vars.map Str.av) cl,.int .i64 v] (.bool (cF p vars v)):=by
 have k1:=N3 h206 p;have k2:=WA h206 p;have k3:=V9 h206 p;have k4:=RZ h206 p;have k5:=aAX h206 p;have k6:=c207 h207 h206 p hk v;have k7:=aEF h148 p.num;have k8:=hname p.name;have k9:Ret pg 98 [.sl nl (vars.map Str.av) cl,.str p.name.bs] (.bool (fD vars p.name.bs)):=c98 h98 h138 nl cl vars hb p.name.bs;have k10:=h70 p.fn.nl p.fn.cl p.fn.es p.fn.ok 2;have k11:=h70 p.fn.nl p.fn.cl p.fn.es p.fn.ok p.kids.length;rw[aA.avc]at k1 k2 k3 k4 k5 k6;refine Ret.ofX hf ?_;clear h206 h148 h207 h98 h138 h70 hname;unfold KT;refine Wk ?_;cases o1:decide (p.op.bs=[99,111,110,115,116])
 case true=>
  clear h140
  repeat' (first|simp only[*,go_sem,seval]|refine cH (λ_=>?_) (λ_=>?_)|refine cJ (λ_=>?_) (λ_=>?_)|(refine aC k1 ?_)|(refine aC k7 ?_)|refine cB ?_)
  all_goals (clear k1 k2 k3 k4 k5 k6 k7 k8 k9 k10 k11)
  all_goals (simp_all [cF])
 refine Wk ?_;cases o2:decide (p.op.bs=[108,105,110,101,97,114])
 case true=>
  clear h140
  repeat' (first|simp only[*,go_sem,seval]|refine cH (λ_=>?_) (λ_=>?_)|refine cJ (λ_=>?_) (λ_=>?_)|(refine aC k2 ?_)|refine cB ?_)
  all_goals (clear k1 k2 k3 k4 k5 k6 k7 k8 k9 k10 k11)
  all_goals (simp_all [cF])
 refine Wk ?_;cases o3:decide (p.op.bs=[114,101,97,100])
 case true=>
  clear h140
  repeat' (first|simp only[*,go_sem,seval]|refine cH (λ_=>?_) (λ_=>?_)|refine cJ (λ_=>?_) (λ_=>?_)|(refine aC k6 ?_)|refine cB ?_)
  all_goals (clear k1 k2 k3 k4 k5 k6 k7 k8 k9 k10 k11)
  all_goals (simp_all [cF])
 refine Wk ?_;cases o4:decide (p.op.bs=[105,102])
 case true=>
  clear h140
  repeat' (first|simp only[*,go_sem,seval]|refine cH (λ_=>?_) (λ_=>?_)|refine cJ (λ_=>?_) (λ_=>?_)|(refine aC k2 ?_)|refine cB ?_)
  all_goals (clear k1 k2 k3 k4 k5 k6 k7 k8 k9 k10 k11)
  all_goals (simp_all [cF])
 refine Wk ?_;cases o5:decide (p.op.bs=[114,101,100,117,99,101])
 case true=>
  clear h140
  repeat' (first|simp only[*,go_sem,seval]|refine cH (λ_=>?_) (λ_=>?_)|refine cJ (λ_=>?_) (λ_=>?_)|(refine aC k3 ?_)|(refine aC k8 ?_)|(refine aC k9 ?_)|(refine aC k10 ?_)|refine cB ?_)
  all_goals (clear k1 k2 k3 k4 k5 k6 k7 k8 k9 k10 k11)
  all_goals (simp_all [cF])
 refine Wk ?_;cases o6:decide (p.op.bs=[99,111,100,101])
 case true=>
  clear h140
  repeat' (first|simp only[*,go_sem,seval]|refine cH (λ_=>?_) (λ_=>?_)|refine cJ (λ_=>?_) (λ_=>?_)|(refine aC k4 ?_)|(refine aC k11 ?_)|refine cB ?_)
  all_goals (clear k1 k2 k3 k4 k5 k6 k7 k8 k9 k10 k11)
  all_goals (simp_all [cF])
 obtain⟨r,hr,hP⟩:=h140 p.op.bs;clear h140
 have hspec:cF p vars v=match cX p.op.bs with
  |none=>false
  |some q=>dC p false false false false false false&&decide ((p.kids.length:Int)=(q.params.length:Int)):=by
  simp at o1 o2 o3 o4 o5 o6;simp[cF,o1,o2,o3,o4,o5,o6]
 generalize cF p vars v=res at hspec ⊢;obtain⟨nl',cl',ps,rs,ok,rfl,hres⟩:∃nl cl,∃ps:List (List UInt8),∃rs ok,r = .tup [.sl nl (ps.map .str) cl,.str rs,.bool ok]/\res=(ok&&dC p false false false false false false&&decide ((p.kids.length:Int)=(ps.length:Int))):=by
  unfold iP at hP;cases hp:cX p.op.bs with
  |none=>rw[hp]at hP hspec;exact⟨_,_,[],_,_,hP,by simp[hspec]⟩
  |some q=>rw[hp]at hP hspec;obtain⟨nl,cl,hP⟩:=hP;exact⟨_,_,q.params,_,_,hP,by simp[hspec]⟩
 clear hP hspec;have htr:treeL (ps.map AV.str)=true:=bQ (f:=AV.str) (λ_=>rfl) ps
 repeat' (first|simp only[*,go_sem,seval]|refine cH (λ_=>?_) (λ_=>?_)|refine cJ (λ_=>?_) (λ_=>?_)|(refine aC hr ?_)|(refine aC k5 ?_)|refine cB ?_)
 all_goals (clear k1 k2 k3 k4 k5 k6 k7 k8 k9 k10 k11 hr)
 all_goals (simp_all)
end
end
end Go.Tev
