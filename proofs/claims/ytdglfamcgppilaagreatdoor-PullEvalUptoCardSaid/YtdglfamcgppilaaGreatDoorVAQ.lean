import Derived.Test.YtdglfamcgppilaaGreatDoorVAP
import Derived.Test.YtdglfamcgppilaaGreatDoorVAI
import Derived.Test.YtdglfamcgppilaaGreatDoorVAM
set_option linter.all false
namespace Go.Tev
section
structure El(esz:Nat)(ag:Bool)(v:AV):Prop where
 fits:v.fits esz ag=true
 one:bE v.cells=true
 tree:v.tree=true
theorem El.len{esz:Nat}{ag:Bool}{v:AV}(h:El esz ag v):v.cells.length=esz:=by have:=h.fits;cases v<;>simp[AV.fits,AV.cells]at this ⊢ <;> first|exact this.2|exact this.2.symm|omega
theorem El.isAgg{esz:Nat}{ag:Bool}{v:AV}(h:El esz ag v):v.isAgg=ag:=by have:=h.fits;cases v<;>cases ag<;>simp[AV.fits,AV.isAgg]at this ⊢
theorem bT{esz:Nat}{ag:Bool}:∀{es:List AV},(∀x∈es,El esz ag x)->∃cs,aR esz ag es=some cs/\cs.length=es.length*esz/\bE cs=true/\∀tl,iR esz ag es.length (cs++tl)=some es
 |[],_=>⟨[],rfl,by simp,rfl,λ_=>rfl⟩
 |x::r,h=>by
  obtain⟨cs,h1,h2,h3,h4⟩:=bT (λy hy=>h y (cC _ hy));have hx:=h x (by simp);have hl:=hx.len;refine⟨x.cells++cs,?_,?_,?_,?_⟩;simp[aR,hx.fits,hx.one,h1];simp[h2,hl,Nat.add_mul];omega;have happ:∀(p q:List AV),bE p=true->bE q=true->bE (p++q)=true:=by
   intro p q hp hq
   induction p with
   |nil=>exact hq
   |cons y s ih=>simp only[bE,aD,List.cons_append]at hp ⊢;exact⟨hp.1,ih hp.2⟩
  exact happ _ _ hx.one h3;intro tl;have hag:=hx.isAgg;cases ag with
  |true=>
   obtain⟨c,rfl⟩:∃c,x = .agg c:=by cases x<;>simp[AV.isAgg]at hag;exact⟨_,rfl⟩
   simp only[AV.cells]at hl;simp only[List.length_cons,iR,AV.cells,if_true,List.append_assoc];rw[if_neg (by simp[hl])];rw[<-hl];simp only[List.drop_left,List.take_left];rw[hl,h4 tl];rfl
  |false=>
   have hc:x.cells=[x]:=by cases x<;>simp[AV.isAgg]at hag<;>rfl
   have he:esz=1:=by rw[hc]at hl;simpa using hl.symm
   subst he;simp only[List.length_cons,iR,hc,Bool.false_eq_true,if_false,List.cons_append,List.nil_append,hag,h4 tl];rfl
theorem PU{h:Hp}{esz:Nat}{ag:Bool}{es:List AV}(he:∀x∈es,El esz ag x):mapS (snap depth h) es=some (es,[]):=by
 refine dK 63 h ?_
 induction es with
 |nil=>rfl
 |cons x r ih=>simp only[treeL,aD];exact⟨(he x (by simp)).tree,ih (λy hy=>he y (cC _ hy))⟩
def Own(h:Hp)(k0 esz:Nat)(ag:Bool)(v:AV)(es:List AV):Prop:=
 (es=[]/\∃nl cl,v = .sl nl [] cl/\(nl||cl)=true) \/
 (∃e cs,v = .rf k0 e 0 es.length es.length/\h.get k0=some (e,.blk cs esz ag false false)/\aR esz ag es=some cs)
theorem Own.mono{h h':Hp}{k0 esz:Nat}{ag:Bool}{v:AV}{es:List AV}(o:Own h k0 esz ag v es)(hh:h'.get k0=h.get k0):Own h' k0 esz ag v es:=by
 rcases o with o|⟨e,cs,h2,h3,h4⟩
 exact .inl o;exact .inr ⟨e,cs,h2,by rw[hh];exact h3,h4⟩
theorem Own.nil(h:Hp)(k0 esz:Nat)(ag:Bool)(nl cl:Bool)(hc:(nl||cl)=true):Own h k0 esz ag (.sl nl [] cl) []:=.inl ⟨rfl,nl,cl,rfl,hc⟩
def nK(esz:Nat)(ag:Bool)(es:List AV)(r:AV):Prop:=
 (es=[]/\∃nl cl,r = .sl nl [] cl/\(nl||cl)=true)\/r = .os es esz ag
theorem Own.conv{h:Hp}{k0 esz:Nat}{ag:Bool}{v:AV}{es:List AV}(o:Own h k0 esz ag v es)(he:∀x∈es,El esz ag x):∃r,Tev.conv h v=some r/\nK esz ag es r:=by
 rcases o with ⟨rfl,nl,cl,rfl,hc⟩|⟨e,cs,rfl,hg,hu⟩
 exact⟨.sl nl [] cl,uD rfl,.inl ⟨rfl,nl,cl,rfl,hc⟩⟩;obtain⟨cs',h1,h2,h3,h4⟩:=bT he;rw[hu]at h1;cases h1;have h5:=h4 [];rw[List.append_nil]at h5;refine⟨.os es esz ag,?_,.inr rfl⟩;simp[Tev.conv,hg,h5,PU he]
theorem eX{esz:Nat}{ag:Bool}:∀{a b:List AV}{c d:List AV},aR esz ag a=some c->aR esz ag b=some d->aR esz ag (a++b)=some (c++d)
 |[],b,c,d,h1,h2=>by cases h1;exact h2
 |x::r,b,c,d,h1,h2=>by simp only[aR]at h1;split at h1;rename_i hc;simp only[iC]at h1;obtain⟨c',h3,rfl⟩:=h1;simp[aR,hc,eX h3 h2];cases h1
section
variable{pg:Pg}{kb:Nat}
theorem kN{esz bytes s:Nat}{ag:Bool}{h:Hp}{v:AV}{es xs:List AV}{nl cl:Bool}{Q:AV->Eff->Prop}{t:Tok Q}(o:Own h (kb+s) esz ag v es)(he:∀x∈es,El esz ag x)(hx:∀x∈xs,El esz ag x)
  (hl:es.length+xs.length<=1073741824) (hb:bytes<=65536)
  (q:∀v' rd pa,Own (Eff.app h (.pat rd pa)) (kb+s) esz ag v' (es++xs)->(∀k,k≠kb+s->(Eff.app h (.pat rd pa)).get k=h.get k)->(∀x∈pa,x.k=kb+s)->Q v' (.pat rd pa)) :
  XO pg kb (.app esz ag bytes) s h [v,.sl nl xs cl] Q t:=by
 rw[eT];obtain⟨ds,d1,d2,d3,_⟩:=bT hx;simp only[i6,aL,d1,Option.map_some];by_cases hxs:xs=[]
 subst hxs;cases d1;rcases o with ⟨rfl,nl',cl',rfl,hc⟩|⟨e,cs,rfl,hg,hu⟩
 simp only[gF,List.length_nil,if_true];exact q _ _ _ (.inl ⟨rfl,nl',cl',rfl,hc⟩) (λ_ _=>rfl) (by simp);obtain⟨cs',c1,c2,_,_⟩:=bT he;rw[hu]at c1;cases c1;simp only[gF,hg,List.length_nil,if_true,true_and,Nat.zero_add];rw[if_pos (by omega)];exact q _ _ _ (.inr ⟨e,cs,by simp,by simpa[Eff.app,bC] using hg,by simpa using hu⟩) (λ_ _=>rfl) (by simp);have hn:xs.length≠0:=by simpa using hxs
 rcases o with ⟨rfl,nl',cl',rfl,hc⟩|⟨e,cs,rfl,hg,hu⟩
 simp only[gF,hn,if_false,hc,List.length_nil,Nat.zero_add,Bool.true_and];have hlx:xs.length<=1073741824:=by simpa using hl
 simp only[hlx,hb,decide_true,Bool.and_self,if_true,aR,List.nil_append];refine q _ _ _ (.inr ⟨_,ds,rfl,?_,by simpa using d1⟩) ?_ (by simp);rw[eI,aB,if_pos rfl];intro k hk;rw[eI,aB,if_neg (Ne.symm hk)];obtain⟨cs',c1,c2,_,_⟩:=bT he;rw[hu]at c1;cases c1;have h1:¬(es.length+xs.length<=es.length):=by omega
 simp only[gF,hg,hn,if_false,true_and,Nat.zero_add];rw[if_pos (by omega)];simp only[h1,if_false,hl,hb,decide_true,Bool.true_and,beq_self_eq_true,Bool.not_true,Bool.and_false,Bool.false_eq_true,Bool.not_false,if_true];refine q _ _ _ (.inr ⟨e+1,cs++ds,by simp,?_,eX hu d1⟩) ?_ (by simp);rw[eI,aB,if_pos rfl];simp[<-c2];intro k hk;rw[eI,aB,if_neg (Ne.symm hk)]
theorem FL{esz bytes s k1:Nat}{ag:Bool}{h:Hp}{v:AV}{es xs:List AV}{nl cl:Bool}{Q:AV->Eff->Prop}{t:Tok Q}(o:Own h k1 esz ag v es)(hk1:k1≠kb+s)(he:∀x∈es,El esz ag x)(hx:∀x∈xs,El esz ag x)
  (hl:es.length+xs.length<=1073741824) (hb:bytes<=65536)
  (q1:xs=[]->∀rd,Q v (.pat rd []))
  (q2:xs≠[]->∀v' rd pa,Own (Eff.app h (.pat rd pa)) (kb+s) esz ag v' (es++xs)->(∀k,k≠kb+s->k≠k1->(Eff.app h (.pat rd pa)).get k=h.get k)->Q v' (.pat rd pa)) :
  XO pg kb (.app esz ag bytes) s h [v,.sl nl xs cl] Q t:=by
 rw[eT];obtain⟨ds,d1,d2,d3,_⟩:=bT hx;simp only[i6,aL,d1,Option.map_some];by_cases hxs:xs=[]
 subst hxs;cases d1;rcases o with ⟨rfl,nl',cl',rfl,hc⟩|⟨e,cs,rfl,hg,hu⟩
 simp only[gF,List.length_nil,if_true];exact q1 rfl _;obtain⟨cs',c1,c2,_,_⟩:=bT he;rw[hu]at c1;cases c1;simp only[gF,hg,List.length_nil,if_true,true_and,Nat.zero_add];rw[if_pos (by omega)];exact q1 rfl _;have hn:xs.length≠0:=by simpa using hxs
 rcases o with ⟨rfl,nl',cl',rfl,hc⟩|⟨e,cs,rfl,hg,hu⟩
 simp only[gF,hn,if_false,hc,List.length_nil,Nat.zero_add,Bool.true_and];have hlx:xs.length<=1073741824:=by simpa using hl
 simp only[hlx,hb,decide_true,Bool.and_self,if_true,aR,List.nil_append];refine q2 hxs _ _ _ (.inr ⟨_,ds,rfl,?_,by simpa using d1⟩) ?_;rw[eI,aB,if_pos rfl];intro k hk _;rw[eI,aB,if_neg (Ne.symm hk)];obtain⟨cs',c1,c2,_,_⟩:=bT he;rw[hu]at c1;cases c1;have h1:¬(es.length+xs.length<=es.length):=by omega
 have h2:(k1==kb+s)=false:=by simpa using hk1
 simp only[gF,hg,hn,if_false,true_and,Nat.zero_add];rw[if_pos (by omega)];simp only[h1,if_false,hl,hb,decide_true,Bool.true_and,h2,Bool.not_false,if_true,Bool.false_eq_true];refine q2 hxs _ _ _ (.inr ⟨h.next (kb+s),cs++ds,by simp,?_,eX hu d1⟩) ?_;rw[lL,aB,if_pos rfl];simp[<-c2];intro k hk hk2;rw[lL,aB,if_neg (Ne.symm hk),aB,if_neg (Ne.symm hk2)]
theorem sY{f s esz:Nat}{ag:Bool}{h:Hp}{vs es:List AV}{Q:AV->Eff->Prop}{t:Tok Q}(hr:cB pg f vs (nK esz ag es))(hm:treeL vs=true)
  (q:∀nl cl,(nl=true->es=[])->Q (.sl nl es cl) (.pat [kb+s] [])):XO pg kb (.call f false false) s h vs Q t:=by
 obtain⟨r,hr,⟨rfl,nl,cl,rfl,hc⟩|rfl⟩:=hr;exact dH hr hm rfl (q nl cl (λ_=>rfl));refine gQ hr (dK 63 h hm) (v:=.sl false es false) (pa:=[]) rfl ?_;have:(if (AV.os es esz ag).flat then ([]:List Ent) else bO h [])++[]=[]:=by split<;>rfl
 rw[this];exact q false false (λh=>by cases h)
theorem S0{f s esz:Nat}{ag:Bool}{h:Hp}{vs es:List AV}{Q:AV->Eff->Prop}{t:Tok Q}(hr:cB pg f vs (nK esz ag es))(hm:treeL vs=true)(he:∀x∈es,El esz ag x)
  (q:∀v rd pa,Own (Eff.app h (.pat rd pa)) (kb+s) esz ag v es->(∀k,k≠kb+s->(Eff.app h (.pat rd pa)).get k=h.get k)->(∀x∈pa,x.k=kb+s)->Q v (.pat rd pa)):XO pg kb (.call f true false) s h vs Q t:=by
 obtain⟨r,hr,⟨rfl,nl,cl,rfl,hc⟩|rfl⟩:=hr;exact dH hr hm rfl (q _ _ _ (Own.nil _ _ _ _ _ _ hc) (λ_ _=>rfl) (by simp));obtain⟨cs,c1,c2,_,_⟩:=bT he;refine gQ hr (dK 63 h hm) (v:=.rf (kb+s) (h.next (kb+s)) 0 es.length es.length) (pa:=[⟨kb+s,h.next (kb+s),.blk cs esz ag false false⟩]) (by simp[hJ,c1]) ?_;have:(if (AV.os es esz ag).flat then ([]:List Ent) else bO h [])=[]:=by split<;>rfl
 rw[this,List.nil_append];refine q _ _ _ (.inr ⟨_,cs,rfl,?_,c1⟩) ?_ (by simp);rw[eI,aB,if_pos rfl];intro k hk;rw[eI,aB,if_neg (Ne.symm hk)]
theorem wU{f s esz:Nat}{ag:Bool}{h:Hp}{vs es:List AV}{Q:AV->Eff->Prop}{t:Tok Q}(hr:cB pg f vs (nK esz ag es))(hm:treeL vs=true)(he:∀x∈es,El esz ag x)
  (q1:es=[]->∀nl cl,(nl||cl)=true->Q (.sl nl [] cl) (.pat [kb+s] []))
  (q2:∀cs,aR esz ag es=some cs->iR esz ag es.length cs=some es->Q (.rf (kb+s) (h.next (kb+s)) 0 es.length es.length) (.pat [kb+s] [⟨kb+s,h.next (kb+s),.blk cs esz ag false false⟩])):XO pg kb (.call f true false) s h vs Q t:=by
 obtain⟨r,hr,⟨rfl,nl,cl,rfl,hc⟩|rfl⟩:=hr;exact dH hr hm rfl (q1 rfl nl cl hc);obtain⟨cs,c1,c2,_,c4⟩:=bT he;refine gQ hr (dK 63 h hm) (v:=.rf (kb+s) (h.next (kb+s)) 0 es.length es.length) (pa:=[⟨kb+s,h.next (kb+s),.blk cs esz ag false false⟩]) (by simp[hJ,c1]) ?_;have:(if (AV.os es esz ag).flat then ([]:List Ent) else bO h [])=[]:=by split<;>rfl
 rw[this,List.nil_append];exact q2 cs c1 (by simpa using c4 [])
end
end
section
def cN(c:UInt8):Bool:=decide (48<=c.toNat)&&decide (c.toNat<=57)
def fA(c:UInt8):Bool:=decide (97<=c.toNat)&&decide (c.toNat<=122)
def jC(s:List UInt8):Bool:=
 match s with
 |[]=>false
 | c::t=>decide (s.length<=30)&&(if c=95 then decide (2<=s.length)&&decide (s.length<=10) && !decide (t.head?=some 48)&&t.all cN else fA c&&t.all (λx=>fA x||cN x))
def QS(i:Nat):List UInt8:=[105,UInt8.ofNat (48+i)]
def lC(n:Int):Bool:=decide (-1000000<=n)&&decide (n<=1000000)
def mF(p:List bH):List bH->Bool
 |[]=>true
 |x::r=>jC x.v.bs && !decide (x.c=0)&&lC x.c&&(match p.getLast? with|none=>true|some q=>Op.bytesLess q.v.bs x.v.bs)&&mF (p++[x]) r
def lE(l:Lin):Bool:=mF [] l.ts.es&&lC l.c&&decide ((l.ts.es.length:Int)<=12)
section
variable{pg:Pg}
theorem c89(hf:pg.fs 89=some OL)(n:Int):Ret pg 89 [.int .i64 n] (.bool (lC n)):=by
 refine Ret.ofX hf ?_;unfold OL
 repeat' (first|simp only[*,go_sem,seval]|refine bW (λ_=>?_) (λ_=>?_)|refine bX (λ_=>?_) (λ_=>?_)|refine bI ?_)
 all_goals simp[lC, *]
theorem c126(hf:pg.fs 126=some vJ)(s p:List UInt8):Ret pg 126 [.str s,.str p] (.bool (decide (p.length<=s.length)&&decide (s.take p.length=p))):=by
 refine Ret.ofX hf ?_;unfold vJ;refine Wk ?_;cases h:decide (p.length<=s.length);have h':decide ((p.length:Int)<=s.length)=false:=by simp at h ⊢;omega
 simp only[h',go_sem,seval];have h':decide ((p.length:Int)<=s.length)=true:=by simp at h ⊢;omega
 simp only[h',go_sem,seval];have h2:(0:Int)<=p.length/\(p.length:Int)<=s.length:=by simp at h;omega
 simp[iK,h2,val,XV,JB];simp only[h',h2,go_sem,seval]
theorem c91(hf:pg.fs 91=some J7)(h126:pg.fs 126=some vJ)(s p:List UInt8):Ret pg 91 [.str s,.str p] (.bool (decide (p.length<=s.length)&&decide (s.take p.length=p))):=by refine Ret.ofX hf ?_;unfold J7;refine Wk ?_;refine aC (c126 h126 s p) ?_;simp only[go_sem,seval]
theorem c51(hf:pg.fs 51=some R6)(h89:pg.fs 89=some OL)(h57:∀s:Str,Ret pg 57 [.str s.bs] (.bool (jC s.bs)))(l:Lin):Ret pg 51 [l.av] (.bool (lE l)):=by
 refine Ret.ofX hf ?_;unfold R6;refine Wk ?_
 refine aM l.ts.es (λd r env hp=>hp.get 1=some (0,.blk [.int .i64 l.c,.sl l.ts.nl (l.ts.es.map bH.av) l.ts.cl] 2 true true false) /\
  env=KM (.pt 1 0 0) (.sl l.ts.nl (l.ts.es.map bH.av) l.ts.cl) (.int .i64 l.ts.es.length) (.int .i64 d.length)/\lE l=(mF d r&&lC l.c&&decide ((l.ts.es.length:Int)<=12))) ?_ ?_ ?_
 exact⟨rfl,rfl,rfl⟩;rintro env hp ⟨h1,rfl,hq⟩;unfold KL KM;simp only[Int.lt_irrefl,h1,go_sem,seval];refine aC (c89 h89 _) ?_;simp only[h1,go_sem,seval];simp only[mF]at hq;cases h9:lC l.c;refine Wk ?_;simp[hq,h9];simp only[h1,go_sem,seval];simp[hq,h9];rintro d x r env hp hes ⟨h1,rfl,hq⟩;have hb:=l.ts.ok;rw[hes]at hb h1 hq ⊢;unfold KL KM;refine Wk ?_;refine aC (h57 x.v) ?_;simp only[mF]at hq;refine Wk ?_;cases hn:jC x.v.bs;refine Wk ?_;refine bI ?_;simp[hq,hn];cases hc:decide (x.c=0)
 case true=>simp only[hc,go_sem,seval];refine bI ?_;simp[hq,hc]
 simp only[hc,go_sem,seval];refine aC (c89 h89 x.c) (Wk ?_);cases h9:lC x.c;refine Wk ?_;refine bI ?_;simp[hq,h9];cases hd:decide (0<(d.length:Int));simp only[hd,cW hb,go_sem,seval];refine And.intro (by kernel_rfl) ⟨h1,rfl,?_⟩;have:d=[]:=by cases d<;>simp_all<;>omega
 subst this;simp[hq,h9,hc,hn];obtain⟨d',y,rfl⟩:∃d' y,d=d'++[y]:=by
  rcases CL d with rfl|⟨d',y,h⟩
  simp at hd;exact⟨d',y,by simpa using h⟩
 have hy:(d'++[y]++x::r)[(wr .i64 (((d'++[y]).length:Int)-1)).toNat]?=some y:=by
  have:wr .i64 (((d'++[y]).length:Int)-1)=(d'.length:Int):=by simp only[dZ,List.length_cons,List.length_nil,big]at *;rw[fX (by omega) (by omega)];omega
  rw[this];simp
 have hy0:(0<=wr .i64 (((d'++[y]).length:Int)-1))=True:=by
  have:wr .i64 (((d'++[y]).length:Int)-1)=(d'.length:Int):=by simp only[dZ,List.length_cons,List.length_nil,big]at *;rw[fX (by omega) (by omega)];omega
  rw[this];simp
 simp only[hd,h1,hy,hy0,go_sem,seval];cases hl:Op.bytesLess y.v.bs x.v.bs;refine Wk ?_;refine bI ?_;simp[hq,hl];simp only[cW hb,go_sem,seval];refine And.intro (by kernel_rfl) ⟨h1,rfl,?_⟩;simp[hq,h9,hc,hn,hl]
theorem El.str(s:List UInt8):El 1 false (.str s):=⟨rfl,rfl,rfl⟩
theorem El.int(n:Int):El 1 false (.int .i64 n):=⟨rfl,rfl,rfl⟩
theorem El.bool(b:Bool):El 1 false (.bool b):=⟨rfl,rfl,rfl⟩
theorem c96(hf:pg.fs 96=some OJ)(l:Lin):cB pg 96 [l.av] (nK 1 false (l.ts.es.map λx => .str x.v.bs)):=by
 refine cB.ofX hf ?_;have hb:=l.ts.ok
 have hel:∀d:List bH,∀x∈d.map (λx:bH=>AV.str x.v.bs),El 1 false x:=by intro d x hx;simp only[List.mem_map]at hx;obtain⟨y,_,rfl⟩:=hx;exact El.str _
 unfold OJ;refine Wk ?_;refine aM l.ts.es (λd r env hp=>∃v,env=J6 v (.sl l.ts.nl (l.ts.es.map bH.av) l.ts.cl) (.int .i64 l.ts.es.length) (.int .i64 d.length)/\Own hp 9 1 false v (d.map λx => .str x.v.bs)) ?_ ?_ ?_;exact⟨_,rfl,Own.nil _ _ _ _ _ _ rfl⟩;rintro env hp ⟨v,rfl,ho⟩;simp only[J5,J6,go_sem,seval];exact ho.conv (hel _);rintro d x r env hp hes ⟨v,rfl,ho⟩;rw[hes]at hb ⊢;simp only[J5,J6,go_sem,seval];refine kN (kb:=0) (s:=9) (bytes:=16) (es:=d.map λx => .str x.v.bs) (ho.mono ?_) (hel _) (xs:=[.str x.v.bs]) (by intro y hy;simp at hy;subst hy;exact El.str _) ?_ (by decide) ?_;simp only[go_sem,seval];simp only[dZ,List.length_cons,List.length_nil,bD,big]at *;omega;intro v' rd pa ho' hk hpa;simp only[cW hb,go_sem,seval];exact⟨v',rfl,by simpa using ho'⟩
theorem c138(hf:pg.fs 138=some zC)(nl cl:Bool)(es:List Str)(hb:es.length<=big)(v:List UInt8) :
  cB pg 138 [.sl nl (es.map Str.av) cl,.str v] (λr=>∃i:Int,r = .int .i64 i/\decide (0<=i)=es.any (λs=>decide (v=s.bs))):=
 L3 (f:=138) (k:=.bin .eql) hf Str.av (λ_=>rfl) nl cl es hb (.str v) (λs=>decide (v=s.bs)) (by intro kb s h x Q t;simp only[go_sem,seval])
theorem c98(hf:pg.fs 98=some OI)(h138:pg.fs 138=some zC)(nl cl:Bool)(es:List Str)(hb:es.length<=big)(v:List UInt8) :
  Ret pg 98 [.sl nl (es.map Str.av) cl,.str v] (.bool (es.any (λs=>decide (v=s.bs)))):=
 rZ (n:=138) hf (by simp only[go_sem,seval]) (c138 h138 nl cl es hb v)
def jF(vars:List Str)(v:List UInt8):Bool:=vars.any (λs=>decide (v=s.bs))
def eK(ls:List Lin)(vars:List Str):Bool:=ls.all λl=>lE l&&l.ts.es.all λx=>jF vars x.v.bs
theorem c97{f:Nat}(hf:pg.fs f=some cf97)(h98:pg.fs 98=some OI)(h138:pg.fs 138=some zC)(nl cl:Bool)(es:List Str)(hb:es.length<=big)(v:List UInt8) :
  Ret pg f [.str v,.fp (.sl nl (es.map Str.av) cl)] (.bool (!jF es v)):=by
 refine Ret.ofX hf ?_;unfold cf97;refine Wk ?_;refine aC (c98 h98 h138 nl cl es hb v) (Wk ?_);rfl
theorem c137(hf:pg.fs 137=some B5)(nl cl:Bool)(es:List Str)(hb:es.length<=big)(g:Nat)(cs:List AV)(hcs:treeL cs=true)(p:Str->Bool)(hp:∀x∈es,Ret pg g (x.av::cs) (.bool (p x))) :
  cB pg 137 [.sl nl (es.map Str.av) cl,.fn g cs] (λr=>∃i:Int,r = .int .i64 i/\decide (0<=i)=es.any p):=
 DG (f:=137) (esz:=1) (ag:=false) hf Str.av (λ_=>rfl) (λ_=>rfl) nl cl es hb g cs hcs p hp
theorem c95(hf:pg.fs 95=some R0)(h137:pg.fs 137=some B5)(nl cl:Bool)(es:List Str)(hb:es.length<=big)(g:Nat)(cs:List AV)(hcs:treeL cs=true)(p:Str->Bool)(hp:∀x∈es,Ret pg g (x.av::cs) (.bool (p x))) :
  Ret pg 95 [.sl nl (es.map Str.av) cl,.fn g cs] (.bool (es.any p)):=
 rZ (n:=137) hf (by simp only[treeL,pQ,vW,hcs,Str.treeL,Bool.and_true]) (c137 h137 nl cl es hb g cs hcs p hp)
theorem QA{f g:Nat}(hf:pg.fs f=some (YN g))(h51:∀l:Lin,Ret pg 51 [l.av] (.bool (lE l)))(h96:pg.fs 96=some OJ)(h95:pg.fs 95=some R0)(h137:pg.fs 137=some B5)(h97:pg.fs g=some cf97)(h98:pg.fs 98=some OI)(h138:pg.fs 138=some zC)
  (nl cl:Bool) (ls:List Lin) (hb:ls.length<=big) (nl' cl':Bool) (vars:List Str) (hb':vars.length<=big):Ret pg f [.sl nl (ls.map Lin.av) cl,.sl nl' (vars.map Str.av) cl'] (.bool (eK ls vars)):=by
 refine Ret.ofX hf ?_;unfold YN;refine Wk ?_;refine fP ls (λd e=>eN e (some 9) (.int .i64 d.length)) (λd r hp=>(∃fz,hp.get 1=some (0,.blk [.sl nl' (vars.map Str.av) cl'] 1 false true fz))/\eK ls vars=eK r vars) rfl ?_ ?_ ?_;exact⟨⟨_,rfl⟩,rfl⟩;rintro hp ⟨⟨fz,h1⟩,hI⟩;simp only[JA,I9,go_sem,seval];rw[hI];rfl;rintro d x r hp hes ⟨⟨fz,h1⟩,hI⟩;subst hes;simp only[JA,I9,go_sem,seval];refine aC (h51 x) (Wk ?_);cases hx:lE x;refine Wk ?_;rw[hI];simp[eK,hx];refine Wk ?_;refine sY (c96 h96 x) (by simp only[go_sem,seval]) ?_;intro nl2 cl2 hnl;refine Wk ?_;have hv:∀y∈x.ts.es.map (λc=>c.v),Ret pg g (y.av::[.fp (.sl nl' (vars.map Str.av) cl')]) (.bool (!jF vars y.bs)):=λy _=>c97 h97 h98 h138 nl' cl' vars hb' y.bs;have h9:=c95 h95 h137 nl2 cl2 (x.ts.es.map λc=>c.v) (by have:=x.ts.ok;simpa using this) g [.fp (.sl nl' (vars.map Str.av) cl')] (by simp only[go_sem,seval]) (λy => !jF vars y.bs) hv;have hm:List.map (λx=>AV.str x.v.bs) x.ts.es=List.map Str.av (x.ts.es.map λc=>c.v):=by simp[Str.av]
 rw[hm];refine gQ (h9) (by simp only[ h1,depth,fY,cA,lV,go_sem,seval];rfl) (by first|rfl|simp only[hJ]) (Wk ?_)
 have hany:(List.map (λc=>c.v) x.ts.es).any (λy => !jF vars y.bs) = !(x.ts.es.all λc=>jF vars c.v.bs):=by simp[List.any_map,List.not_all_eq_any_not];rfl
 rw[hany];cases hy:x.ts.es.all λc=>jF vars c.v.bs;refine Wk ?_;rw[hI];simp[eK,hx,hy];simp only[h1,cW hb,go_sem,seval];exact⟨⟨fz,rfl⟩,by simpa[eK,hx,hy] using hI⟩
def jQ(x y:bH):Bool:=decide (x.v.bs=y.v.bs)&&decide (x.c=y.c)
def iM(a b:Lin):Bool:=decide (a.c=b.c)&&eqL jQ a.ts.es b.ts.es
def mG(a b:bP):Bool:=decide (a.row.bs=b.row.bs)&&eqL iM a.dims.es b.dims.es
end
end
section
def eB:List UInt8:=[105,110,116]
def j6:List UInt8:=[98,111,111,108]
def sA:List UInt8:=[65]
structure pO where
 op:List UInt8
 params:List (List UInt8)
 result:List UInt8
def iJ:List pO:=[
 ⟨[97,100,100],[eB,eB],eB⟩,⟨[115,117,98],[eB,eB],eB⟩,⟨[109,117,108],[eB,eB],eB⟩,⟨[100,105,118],[eB,eB],eB⟩,⟨[109,111,100],[eB,eB],eB⟩,
 ⟨[109,105,110],[eB,eB],eB⟩,⟨[109,97,120],[eB,eB],eB⟩,⟨[110,101,103],[eB],eB⟩,⟨[97,98,115],[eB],eB⟩,⟨[115,105,103,110],[eB],eB⟩,
 ⟨[108,116],[eB,eB],j6⟩,⟨[108,101],[eB,eB],j6⟩,⟨[103,116],[eB,eB],j6⟩,⟨[103,101],[eB,eB],j6⟩,⟨[101,113],[sA,sA],j6⟩,⟨[110,101],[sA,sA],j6⟩,
 ⟨[97,110,100],[j6,j6],j6⟩,⟨[111,114],[j6,j6],j6⟩,⟨[120,111,114],[j6,j6],j6⟩,⟨[110,111,116],[j6],j6⟩,
 ⟨[115,101,108,101,99,116],[j6,sA,sA],sA⟩,⟨[116,111,105,110,116],[j6],eB⟩]
def pO.cells(r:pO):List AV:=[.str r.op,.sl false (r.params.map .str) true,.str r.result]
def P0:AV:=.agg (iJ.flatMap pO.cells)
def fK(op:List UInt8):Option pO:=iJ.find? λr=>decide (r.op=op)
section
variable{pg:Pg}
theorem c107(hf:pg.fs 107=some B8)(nl cl:Bool)(es:List AV)(hel:∀x∈es,El 1 false x)(hb:es.length<=big)(hnl:nl=true->es=[]):cB pg 107 [.sl nl es cl] (nK 1 false es):=by refine cB.ofX hf ?_;unfold B8;refine Wk ?_;cases nl;refine Wk ?_;refine kN (kb:=0) (s:=1) (bytes:=16) (es:=[]) (xs:=es) (Own.nil _ _ _ _ _ _ rfl) (by simp) hel ?_ (by decide) ?_;simp only[List.length_nil,big]at *;omega;intro v' rd pa ho hk hpa;refine Wk ?_;exact ho.conv (by simpa using hel);refine Wk ?_;exact .inl ⟨hnl rfl,true,true,rfl,rfl⟩
theorem c177(hf:pg.fs 177=some zB):Ret pg 177 [] P0:=
 Ret.closed (.n 177 zB .e .e) (by intro f cf h;have:=BT.All.find (p:=λf cf=>pg.fs f=some cf) (t:=.n 177 zB .e .e) ⟨hf,trivial,trivial⟩ h;exact this) 2 (by kernel_rfl)
theorem aDr(d:List pO)(x:pO)(r:List pO):fL ((d++x::r).flatMap pO.cells) (d.length*3) 3 true=some (.agg x.cells):=by
 have hl:∀l:List pO,(l.flatMap pO.cells).length=l.length*3:=by
  intro l
  induction l with
  |nil=>rfl
  |cons y s ih=>simp[pO.cells,ih];omega
 rw[AM,if_pos (by rw[hl];simp;omega)];rw[List.flatMap_append,List.drop_append_of_le_length (by rw[hl];omega),List.drop_eq_nil_of_le (by rw[hl];omega),List.nil_append];rw[List.flatMap_cons];have:x.cells.length=3:=rfl;rw[<-this,List.take_left]
def gK(op:List UInt8)(r:AV):Prop:=
 match fK op with
 |none=>r = .tup [.sl true [] true,.str [],.bool false]
 |some p=>∃nl cl,r = .tup [.sl nl (p.params.map .str) cl,.str p.result,.bool true]
theorem c140(hf:pg.fs 140=some H7)(h177:pg.fs 177=some zB)(h107:pg.fs 107=some B8)(op:List UInt8):cB pg 140 [.str op] (gK op):=by
 refine cB.ofX hf ?_;unfold H7;refine Wk ?_;refine aC (c177 h177) (Wk ?_);have h22:(22:Int)=iJ.length:=rfl;refine fP iJ (λd e=>eN e (some 8) (.int .i64 d.length)) (λd r hp=>fK op=r.find? λx=>decide (x.op=op)) rfl ?_ ?_ ?_;rfl;intro hp hI;simp only[FB,FA,<-h22,go_sem,seval];simp[gK,hI];intro d x r hp hes hI;have hlt:decide ((d.length:Int)<22)=true:=by rw[h22,hes];exact YP d x r
 have hlt':((d.length:Int)<22)=True:=by simpa using hlt
 have hpa:fL (iJ.flatMap pO.cells) (d.length*3) 3 true=some (.agg x.cells):=by rw[hes];exact aDr d x r
 have hb:(d++x::r).length<=big:=by rw[<-hes];decide
 have hlt'':((d.length:Int)<((22:Nat):Int))=True:=by simpa using hlt
 simp only[FB,FA,P0,hlt,hlt',hlt'',hpa,pO.cells,go_sem,seval];cases hx:decide (x.op=op);simp only[cW hb,go_sem,seval];simpa[List.find?_cons,hx] using hI;refine Wk ?_;have hel:∀y∈x.params.map AV.str,El 1 false y:=by intro y hy;simp only[List.mem_map]at hy;obtain⟨z,_,rfl⟩:=hy;exact El.str z
 have hI':fK op=some x:=by simpa[List.find?_cons,hx] using hI
 refine wU (c107 h107 false true (x.params.map .str) hel ?_ (by simp)) ?_ hel ?_ ?_;have:∀y∈iJ,y.params.length<=big:=by decide
 simpa using this x (by rw[hes];simp);simp only[treeL,pQ,Bool.and_true];exact bG (f:=AV.str) (λ_=>rfl) x.params;intro hnil nl cl _;refine Wk ?_;refine bI ?_;simp only[gK,hI'];exact⟨nl,cl,by rw[hnil]⟩;intro cs hcs hch;refine Wk ?_;refine bI ?_;have htr:treeL (x.params.map AV.str)=true:=bG (f:=AV.str) (λ_=>rfl) x.params;have hms:∀h,mapS (snap 62 h) (x.params.map AV.str)=some (x.params.map AV.str,[]):=λh=>dK 61 h htr;have hch':iR 1 false x.params.length cs=some (x.params.map AV.str):=by simpa using hch
 simp only[hms,hch',gK,hI',conv,depth,lV,fY,cA,go_sem,seval];exact⟨false,_,rfl⟩
def bR(n:Int):Bool:=decide (-2147483648<=n)&&decide (n<=2147483647)
def eG(n:Int):Bool:=decide (n=0)||decide (n=1)
theorem CB(hf:pg.fs 148=some nG)(n:Int):Ret pg 148 [.str [105,110,116],.int .i64 n] (.bool (bR n)):=by
 refine Ret.ofX hf ?_;unfold nG
 repeat' (first|simp only[*,go_sem,seval]|refine bW (λ_=>?_) (λ_=>?_)|refine bX (λ_=>?_) (λ_=>?_)|refine bI ?_)
 all_goals simp[bR, *]
theorem SP(hf:pg.fs 148=some nG)(n:Int):Ret pg 148 [.str [98,111,111,108],.int .i64 n] (.bool (eG n)):=by
 refine Ret.ofX hf ?_;unfold nG;refine Wk ?_;simp only[show decide (([98,111,111,108]:List UInt8)=[105,110,116])=false by decide]
 repeat' (first|simp only[*,go_sem,seval]|refine bW (λ_=>?_) (λ_=>?_)|refine bX (λ_=>?_) (λ_=>?_)|refine bI ?_)
 all_goals simp[eG, *]
def gE(l:List Int)(n:Int):Bool:=l.all λa=>decide (0<=a)&&decide (a<n)
def fF(s:aH)(n:Int):Bool:=
 if s.op.bs=[99,111,110,115,116] then decide ((s.args.es.length:Int)=0)&&bR s.num
 else if s.op.bs=[116,114,117,116,104] then decide ((s.args.es.length:Int)=0)&&eG s.num
 else match fK s.op.bs with
  |none=>false
  |some p=>gE s.args.es n&&decide (s.num=0)&&decide ((s.args.es.length:Int)=(p.params.length:Int))
theorem c111(hf:pg.fs 111=some IC)(h148:pg.fs 148=some nG)(h140:∀op,cB pg 140 [.str op] (gK op))(s:aH)(n:Int):Ret pg 111 [s.av,.int .i64 n] (.bool (fF s n)):=by
 refine Ret.ofX hf ?_;have hb:=s.args.ok;unfold IC;refine Wk ?_;cases h1:decide (s.op.bs=[99,111,110,115,116])
 case true=>refine Wk ?_;cases h2:decide ((s.args.es.length:Int)=0);simp only[h2,go_sem,seval];simp at h1 h2;simp[fF,h1,h2];simp only[h2,go_sem,seval];refine aC (CB h148 s.num) (Wk ?_);simp at h1 h2;simp[fF,h1,h2]
 refine Wk ?_;cases h3:decide (s.op.bs=[116,114,117,116,104])
 case true=>refine Wk ?_;cases h2:decide ((s.args.es.length:Int)=0);simp only[h2,go_sem,seval];simp at h1 h2 h3;simp[fF,h1,h2,h3];simp only[h2,go_sem,seval];refine aC (SP h148 s.num) (Wk ?_);simp at h1 h2 h3;simp[fF,h1,h2,h3]
 refine Wk ?_;obtain⟨r,hr,hP⟩:=h140 s.op.bs
 have hspec:fF s n=match fK s.op.bs with
  |none=>false
  |some p=>gE s.args.es n&&decide (s.num=0)&&decide ((s.args.es.length:Int)=(p.params.length:Int)):=by
  simp at h1 h3;simp[fF,h1,h3]
 generalize fF s n=res at hspec ⊢;obtain⟨nl,cl,ps,rs,ok,rfl,hres⟩:∃nl cl,∃ps:List (List UInt8),∃rs ok,r = .tup [.sl nl (ps.map .str) cl,.str rs,.bool ok]/\res=(ok&&gE s.args.es n&&decide (s.num=0)&&decide ((s.args.es.length:Int)=(ps.length:Int))):=by
  unfold gK at hP;cases hp:fK s.op.bs with
  |none=>rw[hp]at hP hspec;exact⟨_,_,[],_,_,hP,by simp[hspec]⟩
  |some p=>rw[hp]at hP hspec;obtain⟨nl,cl,hP⟩:=hP;exact⟨_,_,p.params,_,_,hP,by simp[hspec]⟩
 refine aC hr (Wk ?_)
 refine fP s.args.es (λd e=>eN (eN e (some 44) (.int .i64 d.length)) (some 7) (.bool (ok&&gE d n))) (λd r hp=>(∃fz,hp.get 1=some (0,.blk [.str s.op.bs,.int .i64 s.num,.sl s.args.nl (s.args.es.map aE) s.args.cl] 3 true true fz)))
  (by have h0:(ok&&gE [] n)=ok:=by simp[gE]
      rw[h0];rfl) ?_ ?_ ?_
 exact⟨_,rfl⟩;rintro hp ⟨fz,h1⟩;simp only[FF,FE,go_sem,seval];cases h4:ok&&gE s.args.es n;simp only[h4,h1,go_sem,seval];simp[hres,h4];cases h5:decide (s.num=0);simp only[h1,h5,go_sem,seval];simp[hres,h4,h5];simp only[h1,h5,go_sem,seval];simp[hres,h4,h5]
 ·rintro d x r hp hes ⟨fz,h1⟩;rw[hes]at hb h1 ⊢;have hx:(ok&&gE (d++[x]) n)=((ok&&gE d n)&&(decide (0<=x)&&decide (x<n))):=by simp[gE,Bool.and_assoc]
  rw[hx];cases hA:(ok&&gE d n)<;>cases hB:decide (0<=x)<;>cases hC:decide (x<n)
  all_goals simp only[FF,FE,hA,hB,hC,cW hb,go_sem,seval]
  all_goals exact⟨fz,h1⟩
end
end
section
section
variable{pg:Pg}
theorem c205(hf:pg.fs 205=some M1)(nl cl:Bool)(es:List Lin)(hb:es.length<=big)(g:Nat)(cs:List AV)(hcs:treeL cs=true)(p:Lin->Bool)(hp:∀x∈es,Ret pg g (x.av::cs) (.bool (p x))) :
  cB pg 205 [.sl nl (es.map Lin.av) cl,.fn g cs] (λr=>∃i:Int,r = .int .i64 i/\decide (0<=i)=es.any p):=
 DG (f:=205) (esz:=2) (ag:=true) hf Lin.av (λ_=>by simp only[go_sem,seval]) (λ_=>by simp only[go_sem,seval]) nl cl es hb g cs hcs p hp
theorem c175(hf:pg.fs 175=some SD)(h205:pg.fs 205=some M1)(nl cl:Bool)(es:List Lin)(hb:es.length<=big)(g:Nat)(cs:List AV)(hcs:treeL cs=true)(p:Lin->Bool)(hp:∀x∈es,Ret pg g (x.av::cs) (.bool (p x))) :
  Ret pg 175 [.sl nl (es.map Lin.av) cl,.fn g cs] (.bool (es.any p)):=
 rZ (n:=205) hf (by simp only[treeL,pQ,vW,hcs,Lin.treeL_av,Bool.and_true]) (c205 h205 nl cl es hb g cs hcs p hp)
end
end
section
def bQ(n:Int):List aH->Bool
 |[]=>true
 |s::r=>fF s n&&bQ (n+1) r
def bK(fn:List aH)(n:Int):Bool:=decide (0<=n)&&decide (n<=20)&&decide ((fn.length:Int)<=60) && !decide (n+fn.length=0)&&bQ n fn
def cQ(p:aA)(a b c d e f:Bool):Bool:=
 (a||decide (p.num=0))&&(b||decide (p.value=0))&&(c||decide (p.name.bs=[]))&&(d||decide ((p.at_.es.length:Int)=0))&&(e || !p.dyn&&decide (p.check=0))&&(f||decide ((p.fn.es.length:Int)=0))
def kZ(p:aA)(values:Int):Bool:=
 cQ p false true false true true false&&decide (0<=p.value)&&decide (p.value<values)&&decide (0<=p.check) &&
  (if p.dyn then decide ((p.at_.es.length:Int)<=5)&&decide ((p.kids.length:Int)=1) else decide ((p.at_.es.length:Int)<=6)&&decide ((p.kids.length:Int)=0)&&decide (p.check=0))
section
variable{pg:Pg}
theorem c70(hf:pg.fs 70=some R4)(h111:∀(s:aH) (n:Int),Ret pg 111 [s.av,.int .i64 n] (.bool (fF s n)))(nl cl:Bool)(fn:List aH)(hb:fn.length<=big)(n:Int) :
  Ret pg 70 [.sl nl (fn.map aH.av) cl,.int .i64 n] (.bool (bK fn n)):=by
 refine Ret.ofX hf ?_;unfold R4;refine Wk ?_;cases h1:decide (n<0)
 case true=>
  simp only[h1,go_sem,seval];simp at h1;have:decide (0<=n)=false:=by simp;omega
  simp[bK,this]
 simp only[h1,go_sem,seval];cases h2:decide (20<n)
 case true=>
  simp only[h2,go_sem,seval];simp at h2;have:decide (n<=20)=false:=by simp;omega
  simp[bK,this]
 simp only[h2,go_sem,seval];cases h3:decide (60<(fn.length:Int))
 case true=>
  simp only[h3,go_sem,seval];simp at h3;have:decide ((fn.length:Int)<=60)=false:=by simp;omega
  simp[bK,this]
 simp only[nL]at h1 h2;have hw:wr .i64 (n+fn.length)=n+fn.length:=by simp only[big]at hb;exact fX (by omega) (by omega)
 simp only[h3,hw,go_sem,seval];cases h4:decide (n+(fn.length:Int)=0)
 case true=>simp only[h4,go_sem,seval];simp[bK,h4]
 simp only[h4,go_sem,seval];have hspec:bK fn n=bQ n fn:=by
  simp only[nL]at h3;have e1:decide (0<=n)=true:=by simp;omega
  have e2:decide (n<=20)=true:=by simp;omega
  have e3:decide ((fn.length:Int)<=60)=true:=by simp;omega
  simp[bK,h4,e1,e2,e3]
 rw[hspec];refine fP fn (λd e=>eN e (some 27) (.int .i64 d.length)) (λd r hp=>bQ n fn=bQ (n+d.length) r) rfl ?_ ?_ ?_;simp;intro hp hI;simp only[KF,KE,go_sem,seval];rw[hI];rfl;intro d x r hp hes hI;subst hes;have hw:wr .i64 (n+d.length)=n+d.length:=by simp only[big,dZ,List.length_cons]at hb;exact fX (by omega) (by omega)
 simp only[KF,KE,go_sem,seval];rw[hw];refine aC (h111 x _) (Wk ?_);cases hx:fF x (n+d.length);refine Wk ?_;rw[hI];simp[bQ,hx];simp only[cW hb,go_sem,seval];rw[hI];simp[bQ,hx,Int.add_assoc]
theorem OY(hf:pg.fs 206=some kV)(p:aA):Ret pg 206 [p.av,.bool false,.bool true,.bool false,.bool true,.bool true,.bool false] (.bool (cQ p false true false true true false)):=by
 refine Ret.ofX hf ?_;unfold kV
 repeat' (first|simp only[*,go_sem,seval]|refine bW (λ_=>?_) (λ_=>?_)|refine bX (λ_=>?_) (λ_=>?_)|refine bI ?_)
 all_goals (simp_all [cQ])
theorem K3(hf:pg.fs 206=some kV)(p:aA):Ret pg 206 [p.av,.bool true,.bool false,.bool false,.bool false,.bool false,.bool false] (.bool (cQ p true false false false false false)):=by
 refine Ret.ofX hf ?_;unfold kV
 repeat' (first|simp only[*,go_sem,seval]|refine bW (λ_=>?_) (λ_=>?_)|refine bX (λ_=>?_) (λ_=>?_)|refine bI ?_)
 all_goals (simp_all [cQ])
theorem SO(hf:pg.fs 206=some kV)(p:aA):Ret pg 206 [p.av,.bool false,.bool false,.bool false,.bool true,.bool false,.bool false] (.bool (cQ p false false false true false false)):=by
 refine Ret.ofX hf ?_;unfold kV
 repeat' (first|simp only[*,go_sem,seval]|refine bW (λ_=>?_) (λ_=>?_)|refine bX (λ_=>?_) (λ_=>?_)|refine bI ?_)
 all_goals (simp_all [cQ])
theorem SN(hf:pg.fs 206=some kV)(p:aA):Ret pg 206 [p.av,.bool false,.bool false,.bool true,.bool true,.bool false,.bool true] (.bool (cQ p false false true true false true)):=by
 refine Ret.ofX hf ?_;unfold kV
 repeat' (first|simp only[*,go_sem,seval]|refine bW (λ_=>?_) (λ_=>?_)|refine bX (λ_=>?_) (λ_=>?_)|refine bI ?_)
 all_goals (simp_all [cQ])
theorem OZ(hf:pg.fs 206=some kV)(p:aA):Ret pg 206 [p.av,.bool false,.bool false,.bool false,.bool false,.bool false,.bool true] (.bool (cQ p false false false false false true)):=by
 refine Ret.ofX hf ?_;unfold kV
 repeat' (first|simp only[*,go_sem,seval]|refine bW (λ_=>?_) (λ_=>?_)|refine bX (λ_=>?_) (λ_=>?_)|refine bI ?_)
 all_goals (simp_all [cQ])
theorem XL(hf:pg.fs 206=some kV)(p:aA):Ret pg 206 [p.av,.bool false,.bool false,.bool false,.bool false,.bool false,.bool false] (.bool (cQ p false false false false false false)):=by
 refine Ret.ofX hf ?_;unfold kV
 repeat' (first|simp only[*,go_sem,seval]|refine bW (λ_=>?_) (λ_=>?_)|refine bX (λ_=>?_) (λ_=>?_)|refine bI ?_)
 all_goals (simp_all [cQ])
theorem c207(hf:pg.fs 207=some BZ)(h206:pg.fs 206=some kV)(p:aA)(hp:p.kids.length<=big)(v:Int) :
  Ret pg 207 [p.av,.int .i64 v] (.bool (kZ p v)):=by
 have h6:=OY h206 p;rw[aA.avc]at h6;refine Ret.ofX hf ?_;unfold BZ;clear h206
 repeat' (first|simp only[*,go_sem,seval]|refine bW (λ_=>?_) (λ_=>?_)|refine bX (λ_=>?_) (λ_=>?_)|(refine aC h6 ?_)|refine bI ?_)
 all_goals (clear h6)
 all_goals (simp_all [kZ])
 all_goals (try omega)
end
end
section
mutual
theorem aA.ind'{P:aA->Prop}(h:∀p:aA,(∀q∈p.kids,P q)->P p):∀p,P p
 |.mk op num value name at_ dyn check fn knl kids kcl=>h _ (aA.inds h kids)
theorem aA.inds{P:aA->Prop}(h:∀p:aA,(∀q∈p.kids,P q)->P p):∀l:List aA,∀q∈l,P q
 |[]=>by simp
 |x::r=>List.forall_mem_cons.2 ⟨aA.ind' h x,aA.inds h r⟩
end
mutual
def kI:aA->Int
 |.mk _ _ _ _ _ _ _ _ _ kids _=>jN 1 kids
def jN(a:Int):List aA->Int
 |[]=>a
 |p::r=>jN (wr .i64 (a+kI p)) r
end
theorem AO(p:aA):kI p=jN 1 p.kids:=by cases p;rw[kI];rfl
theorem o8:∀(d:List aA)(a:Int)(x:aA),jN a (d++[x])=wr .i64 (jN a d+kI x)
 |[],a,x=>by simp[jN]
 |y::d,a,x=>by simp only[List.cons_append,jN];exact o8 d _ x
section
variable{pg:Pg}
theorem c146(hf:pg.fs 146=some B4):∀p:aA,p.ok->Ret pg 146 [p.av] (.int .i64 (kI p)):=by refine aA.ind' λp ih hp=>?_;obtain⟨hb,hk⟩:=(aA.ok_iff p).1 hp;refine Ret.ofX hf ?_;unfold B4;refine Wk ?_;refine fP p.kids (λd e=>eN (eN e (some 9) (.int .i64 d.length)) (some 3) (.int .i64 (jN 1 d))) (λd r hp=>True) (by simp only[jN];rfl) trivial ?_ ?_;rintro hp -;simp only[E9,E8,go_sem,seval];exact(AO p).symm;rintro d x r hp hes -;have hx:=ih x (by rw[hes];simp) (hk x (by rw[hes];simp));rw[hes]at hb;rw[hes];rw[aA.avc]at hx;simp only[E9,E8,go_sem,seval];refine aC (hx) ?_;simp only[cW hb,o8,go_sem,seval]
theorem c209(hf:pg.fs 209=some yZ)(n:Nat)(h0:0<n)(hb:n<=1073741824):cB pg 209 [.sl true [] true,.int .i64 n] (nK 1 false []):=by
 refine cB.ofX hf ?_;have e1:decide ((n:Int)<0)=false:=by simp
 have e2:decide ((0:Int)<n)=true:=by simp;omega
 have e3:wr .i64 (n:Int)=n:=fX (by omega) (by omega);have e4:wr .i64 (0:Int)=0:=rfl;unfold yZ;simp only[e1,iK,iI,Int.sub_zero,Int.sub_self,e3,e4,e2,Option.getD_none,go_sem,seval]
 have hz:XO pg 0 (.apz 1 false 16 [.str []]) 1 [] [.sl true [] true,.int .i64 (n:Int)]=λQ _=>Q (.rf 1 0 0 n n) (.pat [1] [⟨1,0,.blk (List.replicate n [.str []]).flatten 1 false false false⟩]):=by
  funext Q t;have hn:n≠0:=by omega
  show WO pg 0 _ 1 [] _ Q=_;rw[cH rfl];have ha:bE [AV.str []]=true:=rfl;have hb':(n:Int)<=1073741824:=by omega
  simp[C8,RJ,hb,hb',ha,gF,hn,JB,aR,Hp.next,L4]
 rw[hz];simp only[iK,iI,Option.getD_none,Option.getD_some,go_sem,seval];simp only[XV,JB,Option.getD_none,Option.getD_some,Option.isNone_none,Bool.or_true,Int.toNat_zero,Nat.sub_zero];rw[if_pos (by simp)];refine Wk ?_;simp only[iR,List.drop_zero,conv,depth,lV,fY,cA,go_sem,seval];exact⟨_,by simp,.inr rfl⟩
theorem El.strs(l:List Str):∀x∈l.map Str.av,El 1 false x:=by intro x hx;simp only[List.mem_map]at hx;obtain⟨y,_,rfl⟩:=hx;exact⟨rfl,rfl,rfl⟩
theorem c184(hf:pg.fs 184=some B1)(h209:pg.fs 209=some yZ)(nl cl:Bool)(vars:List Str)(s:Str)(hb:vars.length<=big) :
  cB pg 184 [.sl false [.sl nl (vars.map Str.av) cl,.sl false [.str s.bs] true] true] (nK 1 false ((vars++[s]).map Str.av)):=by
 refine cB.ofX hf ?_;simp only[big]at hb;have e1:wr .i64 (vars.length:Int)=vars.length:=fX (by omega) (by omega);have e2:wr .i64 ((vars.length:Int)+1)=((vars.length+1:Nat):Int):=by rw[fX (by omega) (by omega)];omega
 have e3:decide ((vars.length:Int)<0)=false:=by simp
 have e4:decide ((((vars.length+1:Nat):Int))<0)=false:=by simp;omega
 have e5:wr .i64 1=1:=rfl;have e6:wr .i64 2=2:=rfl;have e7:((1:Int).toNat)=1:=rfl;have e8:(((2:Nat):Int))=2:=rfl;have e13:(((1:Nat):Int))=1:=rfl;have e9:decide ((0:Int)<2)=true:=rfl;have e10:decide ((1:Int)<2)=true:=rfl;have e11:decide ((2:Int)<2)=false:=rfl;have e12:((0:Int)<=1)=True:=by simp
 unfold B1;refine Wk ?_;rw[mP];simp only[wR,wQ,e1,e3,Int.zero_add,e5,e8,e9,go_sem,seval];rw[mP];simp only[wR,wQ,e13,e2,e4,e5,e6,e7,e8,e10,e12,Int.reduceAdd,go_sem,seval];rw[mP];simp only[wR,wQ,e8,e11,go_sem,seval];refine S0 (c209 h209 (vars.length+1) (by omega) (by omega)) (by simp only[go_sem,seval]) (by simp) ?_;intro v rd pa ho hk hpa;refine Wk ?_;rw[mP];simp only[sM,sL,e8,e9,go_sem,seval];have hcat:∀v':AV,∀hp:Hp,Own hp 5 1 false v' (vars.map Str.av++[.str s.bs])->∃r,conv hp v'=some r/\nK 1 false ((vars++[s]).map Str.av) r:=by intro v' hp ho';have:=ho'.conv (by have:=El.strs (vars++[s]);simpa[Str.av] using this);simpa[Str.av] using this
 have hfin:∀(v':AV)(hp:Hp),(Own hp 1 1 false v' (vars.map Str.av)/\vars=[])\/Own hp 5 1 false v' (vars.map Str.av) ->
   ∀(Q:AV->Eff->Prop)(t:Tok Q),(∀v2 rd pa,Own (Eff.app hp (.pat rd pa)) 5 1 false v2 (vars.map Str.av++[.str s.bs])->Q v2 (.pat rd pa))->XO pg 0 (.app 1 false 16) 5 hp [v',.sl false [.str s.bs] true] Q t:=by
  intro v' hp hor Q t hq;have hs:∀x∈[AV.str s.bs],El 1 false x:=by intro x hx;simp at hx;subst hx;exact⟨rfl,rfl,rfl⟩
  rcases hor with ⟨ho',hv⟩|ho';exact FL (kb:=0) (s:=5) ho' (by decide) (El.strs vars) hs (by simp;omega) (by omega) (λh=>by simp at h) (λ_ v2 rd pa h _=>hq v2 rd pa h);exact kN (kb:=0) (s:=5) ho' (El.strs vars) hs (by simp;omega) (by omega) (λv2 rd pa h _ _=>hq v2 rd pa h)
 have hrest:∀(v':AV)(hp:Hp),(Own hp 1 1 false v' (vars.map Str.av)/\vars=[])\/Own hp 5 1 false v' (vars.map Str.av)->∀env:List AV,
   clear sL env=M2 v' (.sl false [.sl nl (vars.map Str.av) cl,.sl false [.str s.bs] true] true) (.int .i64 2) (.int .i64 1) ->
   XX pg 0 (.loop sM sL) ⟨env,hp⟩ (mA 2 (kR (λst'=>XX pg 0 ((C.reg [⟨some 35,.mov,[.t 6],none,0,0⟩,⟨some 2,.mov,[.t 35],none,0,0⟩] false).seq C.ret) st' (RS [Sum.inl 2] (nK 1 false ((vars++[s]).map Str.av))) ⟨⟩) (RS [Sum.inl 2] (nK 1 false ((vars++[s]).map Str.av))))) ⟨⟩:=by
  intro v' hp hor env henv;rw[mP,henv];simp only[sM,M2,e8,e10,e7,e12,go_sem,seval];refine hfin v' hp hor _ _ ?_;intro v2 rd pa ho2;simp only[e6,e5,go_sem,seval];rw[mP];simp only[sM,sL,e8,e11,Int.reduceAdd,e6,go_sem,seval];exact hcat _ _ ho2
 refine FL (kb:=0) (s:=5) (k1:=1) ho (by decide) (by simp) (El.strs vars) (by simp;omega) (by omega) ?_ ?_;intro hx rd;have hv:vars=[]:=by simpa using hx
 simp only[e5,go_sem,seval];exact hrest v _ (.inl ⟨by rw[hv];exact ho,hv⟩) _ rfl;intro _ v' rd' pa' ho' _;simp only[e5,go_sem,seval];exact hrest v' _ (.inr (by simpa using ho')) _ rfl
end
end
section
def bZ(p:aA)(vars:List Str)(values:Int):Bool:=
 if p.op.bs=[99,111,110,115,116] then cQ p true false false false false false&&decide ((p.kids.length:Int)=0)&&bR p.num
 else if p.op.bs=[108,105,110,101,97,114] then cQ p false false false true false false&&decide ((p.kids.length:Int)=0)&&decide ((p.at_.es.length:Int)=1)
 else if p.op.bs=[114,101,97,100] then kZ p values
 else if p.op.bs=[105,102] then cQ p false false false true false false&&decide ((p.kids.length:Int)=2)&&decide ((p.at_.es.length:Int)=1)
 else if p.op.bs=[114,101,100,117,99,101] then cQ p false false true true false true&&decide ((p.kids.length:Int)=2)&&decide ((p.at_.es.length:Int)=1)&&jC p.name.bs && !jF vars p.name.bs&&bK p.fn.es 2
 else if p.op.bs=[99,111,100,101] then cQ p false false false false false true&&bK p.fn.es p.kids.length
 else match fK p.op.bs with
  |none=>false
  |some q=>cQ p false false false false false false&&decide ((p.kids.length:Int)=(q.params.length:Int))
section
variable{pg:Pg}
set_option maxHeartbeats 1000000 in
theorem c182(hname:∀s:Str,Ret pg 57 [.str s.bs] (.bool (jC s.bs)))(hf:pg.fs 182=some HY)(h206:pg.fs 206=some kV)(h148:pg.fs 148=some nG)(h207:pg.fs 207=some BZ)(h98:pg.fs 98=some OI)(h138:pg.fs 138=some zC)
  (h70:∀(nl cl:Bool)(fn:List aH),fn.length<=big->∀n:Int,Ret pg 70 [.sl nl (fn.map aH.av) cl,.int .i64 n] (.bool (bK fn n))) (h140:∀op,cB pg 140 [.str op] (gK op))
  (p:aA) (hk:p.kids.length<=big) (nl cl:Bool) (vars:List Str) (hb:vars.length<=big) (v:Int):Ret pg 182 [p.av,.sl nl (vars.map Str.av) cl,.int .i64 v] (.bool (bZ p vars v)):=by
 have k1:=K3 h206 p;have k2:=SO h206 p;have k3:=SN h206 p;have k4:=OZ h206 p;have k5:=XL h206 p;have k6:=c207 h207 h206 p hk v;have k7:=CB h148 p.num;have k8:=hname p.name;have k9:Ret pg 98 [.sl nl (vars.map Str.av) cl,.str p.name.bs] (.bool (jF vars p.name.bs)):=c98 h98 h138 nl cl vars hb p.name.bs;have k10:=h70 p.fn.nl p.fn.cl p.fn.es p.fn.ok 2;have k11:=h70 p.fn.nl p.fn.cl p.fn.es p.fn.ok p.kids.length;rw[aA.avc]at k1 k2 k3 k4 k5 k6;refine Ret.ofX hf ?_;clear h206 h148 h207 h98 h138 h70 hname;unfold HY;refine Wk ?_;cases o1:decide (p.op.bs=[99,111,110,115,116])
 case true=>
  clear h140
  repeat' (first|simp only[*,go_sem,seval]|refine bW (λ_=>?_) (λ_=>?_)|refine bX (λ_=>?_) (λ_=>?_)|(refine aC k1 ?_)|(refine aC k7 ?_)|refine bI ?_)
  all_goals (clear k1 k2 k3 k4 k5 k6 k7 k8 k9 k10 k11)
  all_goals (simp_all [bZ])
 refine Wk ?_;cases o2:decide (p.op.bs=[108,105,110,101,97,114])
 case true=>
  clear h140
  repeat' (first|simp only[*,go_sem,seval]|refine bW (λ_=>?_) (λ_=>?_)|refine bX (λ_=>?_) (λ_=>?_)|(refine aC k2 ?_)|refine bI ?_)
  all_goals (clear k1 k2 k3 k4 k5 k6 k7 k8 k9 k10 k11)
  all_goals (simp_all [bZ])
 refine Wk ?_;cases o3:decide (p.op.bs=[114,101,97,100])
 case true=>
  clear h140
  repeat' (first|simp only[*,go_sem,seval]|refine bW (λ_=>?_) (λ_=>?_)|refine bX (λ_=>?_) (λ_=>?_)|(refine aC k6 ?_)|refine bI ?_)
  all_goals (clear k1 k2 k3 k4 k5 k6 k7 k8 k9 k10 k11)
  all_goals (simp_all [bZ])
 refine Wk ?_;cases o4:decide (p.op.bs=[105,102])
 case true=>
  clear h140
  repeat' (first|simp only[*,go_sem,seval]|refine bW (λ_=>?_) (λ_=>?_)|refine bX (λ_=>?_) (λ_=>?_)|(refine aC k2 ?_)|refine bI ?_)
  all_goals (clear k1 k2 k3 k4 k5 k6 k7 k8 k9 k10 k11)
  all_goals (simp_all [bZ])
 refine Wk ?_;cases o5:decide (p.op.bs=[114,101,100,117,99,101])
 case true=>
  clear h140
  repeat' (first|simp only[*,go_sem,seval]|refine bW (λ_=>?_) (λ_=>?_)|refine bX (λ_=>?_) (λ_=>?_)|(refine aC k3 ?_)|(refine aC k8 ?_)|(refine aC k9 ?_)|(refine aC k10 ?_)|refine bI ?_)
  all_goals (clear k1 k2 k3 k4 k5 k6 k7 k8 k9 k10 k11)
  all_goals (simp_all [bZ])
 refine Wk ?_;cases o6:decide (p.op.bs=[99,111,100,101])
 case true=>
  clear h140
  repeat' (first|simp only[*,go_sem,seval]|refine bW (λ_=>?_) (λ_=>?_)|refine bX (λ_=>?_) (λ_=>?_)|(refine aC k4 ?_)|(refine aC k11 ?_)|refine bI ?_)
  all_goals (clear k1 k2 k3 k4 k5 k6 k7 k8 k9 k10 k11)
  all_goals (simp_all [bZ])
 obtain⟨r,hr,hP⟩:=h140 p.op.bs;clear h140
 have hspec:bZ p vars v=match fK p.op.bs with
  |none=>false
  |some q=>cQ p false false false false false false&&decide ((p.kids.length:Int)=(q.params.length:Int)):=by
  simp at o1 o2 o3 o4 o5 o6;simp[bZ,o1,o2,o3,o4,o5,o6]
 generalize bZ p vars v=res at hspec ⊢;obtain⟨nl',cl',ps,rs,ok,rfl,hres⟩:∃nl cl,∃ps:List (List UInt8),∃rs ok,r = .tup [.sl nl (ps.map .str) cl,.str rs,.bool ok]/\res=(ok&&cQ p false false false false false false&&decide ((p.kids.length:Int)=(ps.length:Int))):=by
  unfold gK at hP;cases hp:fK p.op.bs with
  |none=>rw[hp]at hP hspec;exact⟨_,_,[],_,_,hP,by simp[hspec]⟩
  |some q=>rw[hp]at hP hspec;obtain⟨nl,cl,hP⟩:=hP;exact⟨_,_,q.params,_,_,hP,by simp[hspec]⟩
 clear hP hspec;have htr:treeL (ps.map AV.str)=true:=bG (f:=AV.str) (λ_=>rfl) ps
 repeat' (first|simp only[*,go_sem,seval]|refine bW (λ_=>?_) (λ_=>?_)|refine bX (λ_=>?_) (λ_=>?_)|(refine aC hr ?_)|(refine aC k5 ?_)|refine bI ?_)
 all_goals (clear k1 k2 k3 k4 k5 k6 k7 k8 k9 k10 k11 hr)
 all_goals (simp_all)
end
end
end Go.Tev
