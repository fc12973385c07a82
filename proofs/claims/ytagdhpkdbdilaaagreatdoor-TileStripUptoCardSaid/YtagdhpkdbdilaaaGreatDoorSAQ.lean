import Derived.Test.YtagdhpkdbdilaaaGreatDoorSAP
import Derived.Test.YtagdhpkdbdilaaaGreatDoorSAI
import Derived.Test.YtagdhpkdbdilaaaGreatDoorSAM
set_option linter.all false
namespace Go.Tev
section
structure El(esz:Nat)(ag:Bool)(v:AV):Prop where
 fits:v.fits esz ag=true
 one:bM v.cells=true
 tree:v.tree=true
theorem El.len{esz:Nat}{ag:Bool}{v:AV}(h:El esz ag v):v.cells.length=esz:=by have:=h.fits;cases v<;>simp[AV.fits,AV.cells]at this ⊢ <;> first|exact this.2|exact this.2.symm|omega
theorem El.isAgg{esz:Nat}{ag:Bool}{v:AV}(h:El esz ag v):v.isAgg=ag:=by have:=h.fits;cases v<;>cases ag<;>simp[AV.fits,AV.isAgg]at this ⊢
theorem bE{esz:Nat}{ag:Bool}:∀{es:List AV},(∀x∈es,El esz ag x)->∃cs,aP esz ag es=some cs/\cs.length=es.length*esz/\bM cs=true/\∀tl,j6 esz ag es.length (cs++tl)=some es
 |[],_=>⟨[],rfl,by simp,rfl,λ_=>rfl⟩
 |x::r,h=>by
  obtain⟨cs,h1,h2,h3,h4⟩:=bE (λy hy=>h y (bS _ hy));have hx:=h x (by simp);have hl:=hx.len;refine⟨x.cells++cs,?_,?_,?_,?_⟩;simp[aP,hx.fits,hx.one,h1];simp[h2,hl,Nat.add_mul];omega;have happ:∀(p q:List AV),bM p=true->bM q=true->bM (p++q)=true:=by
   intro p q hp hq
   induction p with
   |nil=>exact hq
   |cons y s ih=>simp only[bM,aF,List.cons_append]at hp ⊢;exact⟨hp.1,ih hp.2⟩
  exact happ _ _ hx.one h3;intro tl;have hag:=hx.isAgg;cases ag with
  |true=>
   obtain⟨c,rfl⟩:∃c,x = .agg c:=by cases x<;>simp[AV.isAgg]at hag;exact⟨_,rfl⟩
   simp only[AV.cells]at hl;simp only[List.length_cons,j6,AV.cells,if_true,List.append_assoc];rw[if_neg (by simp[hl])];rw[<-hl];simp only[List.drop_left,List.take_left];rw[hl,h4 tl];rfl
  |false=>
   have hc:x.cells=[x]:=by cases x<;>simp[AV.isAgg]at hag<;>rfl
   have he:esz=1:=by rw[hc]at hl;simpa using hl.symm
   subst he;simp only[List.length_cons,j6,hc,Bool.false_eq_true,if_false,List.cons_append,List.nil_append,hag,h4 tl];rfl
theorem KB{h:Hp}{esz:Nat}{ag:Bool}{es:List AV}(he:∀x∈es,El esz ag x):mapS (snap depth h) es=some (es,[]):=by
 refine cX 63 h ?_
 induction es with
 |nil=>rfl
 |cons x r ih=>simp only[treeL,aF];exact⟨(he x (by simp)).tree,ih (λy hy=>he y (bS _ hy))⟩
def Own(h:Hp)(k0 esz:Nat)(ag:Bool)(v:AV)(es:List AV):Prop:=
 (es=[]/\∃nl cl,v = .sl nl [] cl/\(nl||cl)=true) \/
 (∃e cs,v = .rf k0 e 0 es.length es.length/\h.get k0=some (e,.blk cs esz ag false false)/\aP esz ag es=some cs)
theorem Own.mono{h h':Hp}{k0 esz:Nat}{ag:Bool}{v:AV}{es:List AV}(o:Own h k0 esz ag v es)(hh:h'.get k0=h.get k0):Own h' k0 esz ag v es:=by
 rcases o with o|⟨e,cs,h2,h3,h4⟩
 exact .inl o;exact .inr ⟨e,cs,h2,by rw[hh];exact h3,h4⟩
theorem Own.nil(h:Hp)(k0 esz:Nat)(ag:Bool)(nl cl:Bool)(hc:(nl||cl)=true):Own h k0 esz ag (.sl nl [] cl) []:=.inl ⟨rfl,nl,cl,rfl,hc⟩
def wJ(esz:Nat)(ag:Bool)(es:List AV)(r:AV):Prop:=
 (es=[]/\∃nl cl,r = .sl nl [] cl/\(nl||cl)=true)\/r = .os es esz ag
theorem Own.conv{h:Hp}{k0 esz:Nat}{ag:Bool}{v:AV}{es:List AV}(o:Own h k0 esz ag v es)(he:∀x∈es,El esz ag x):∃r,Tev.conv h v=some r/\wJ esz ag es r:=by
 rcases o with ⟨rfl,nl,cl,rfl,hc⟩|⟨e,cs,rfl,hg,hu⟩
 exact⟨.sl nl [] cl,rB rfl,.inl ⟨rfl,nl,cl,rfl,hc⟩⟩;obtain⟨cs',h1,h2,h3,h4⟩:=bE he;rw[hu]at h1;cases h1;have h5:=h4 [];rw[List.append_nil]at h5;refine⟨.os es esz ag,?_,.inr rfl⟩;simp[Tev.conv,hg,h5,KB he]
theorem cG{esz:Nat}{ag:Bool}:∀{a b:List AV}{c d:List AV},aP esz ag a=some c->aP esz ag b=some d->aP esz ag (a++b)=some (c++d)
 |[],b,c,d,h1,h2=>by cases h1;exact h2
 |x::r,b,c,d,h1,h2=>by simp only[aP]at h1;split at h1;rename_i hc;simp only[lO]at h1;obtain⟨c',h3,rfl⟩:=h1;simp[aP,hc,cG h3 h2];cases h1
section
variable{pg:Pg}{kb:Nat}
theorem nA{esz bytes s:Nat}{ag:Bool}{h:Hp}{v:AV}{es xs:List AV}{nl cl:Bool}{Q:AV->Eff->Prop}{t:Tok Q}(o:Own h (kb+s) esz ag v es)(he:∀x∈es,El esz ag x)(hx:∀x∈xs,El esz ag x)
  (hl:es.length+xs.length<=1073741824) (hb:bytes<=65536)
  (q:∀v' rd pa,Own (Eff.app h (.pat rd pa)) (kb+s) esz ag v' (es++xs)->(∀k,k≠kb+s->(Eff.app h (.pat rd pa)).get k=h.get k)->(∀x∈pa,x.k=kb+s)->Q v' (.pat rd pa)) :
  XO pg kb (.app esz ag bytes) s h [v,.sl nl xs cl] Q t:=by
 rw[kY];obtain⟨ds,d1,d2,d3,_⟩:=bE hx;simp only[lH,bI,d1,Option.map_some];by_cases hxs:xs=[]
 subst hxs;cases d1;rcases o with ⟨rfl,nl',cl',rfl,hc⟩|⟨e,cs,rfl,hg,hu⟩
 simp only[fM,List.length_nil,if_true];exact q _ _ _ (.inl ⟨rfl,nl',cl',rfl,hc⟩) (λ_ _=>rfl) (by simp);obtain⟨cs',c1,c2,_,_⟩:=bE he;rw[hu]at c1;cases c1;simp only[fM,hg,List.length_nil,if_true,true_and,Nat.zero_add];rw[if_pos (by omega)];exact q _ _ _ (.inr ⟨e,cs,by simp,by simpa[Eff.app,bJ] using hg,by simpa using hu⟩) (λ_ _=>rfl) (by simp);have hn:xs.length≠0:=by simpa using hxs
 rcases o with ⟨rfl,nl',cl',rfl,hc⟩|⟨e,cs,rfl,hg,hu⟩
 simp only[fM,hn,if_false,hc,List.length_nil,Nat.zero_add,Bool.true_and];have hlx:xs.length<=1073741824:=by simpa using hl
 simp only[hlx,hb,decide_true,Bool.and_self,if_true,aP,List.nil_append];refine q _ _ _ (.inr ⟨_,ds,rfl,?_,by simpa using d1⟩) ?_ (by simp);rw[eS,aI,if_pos rfl];intro k hk;rw[eS,aI,if_neg (Ne.symm hk)];obtain⟨cs',c1,c2,_,_⟩:=bE he;rw[hu]at c1;cases c1;have h1:¬(es.length+xs.length<=es.length):=by omega
 simp only[fM,hg,hn,if_false,true_and,Nat.zero_add];rw[if_pos (by omega)];simp only[h1,if_false,hl,hb,decide_true,Bool.true_and,beq_self_eq_true,Bool.not_true,Bool.and_false,Bool.false_eq_true,Bool.not_false,if_true];refine q _ _ _ (.inr ⟨e+1,cs++ds,by simp,?_,cG hu d1⟩) ?_ (by simp);rw[eS,aI,if_pos rfl];simp[<-c2];intro k hk;rw[eS,aI,if_neg (Ne.symm hk)]
theorem TU{esz bytes s k1:Nat}{ag:Bool}{h:Hp}{v:AV}{es xs:List AV}{nl cl:Bool}{Q:AV->Eff->Prop}{t:Tok Q}(o:Own h k1 esz ag v es)(hk1:k1≠kb+s)(he:∀x∈es,El esz ag x)(hx:∀x∈xs,El esz ag x)
  (hl:es.length+xs.length<=1073741824) (hb:bytes<=65536)
  (q1:xs=[]->∀rd,Q v (.pat rd []))
  (q2:xs≠[]->∀v' rd pa,Own (Eff.app h (.pat rd pa)) (kb+s) esz ag v' (es++xs)->(∀k,k≠kb+s->k≠k1->(Eff.app h (.pat rd pa)).get k=h.get k)->Q v' (.pat rd pa)) :
  XO pg kb (.app esz ag bytes) s h [v,.sl nl xs cl] Q t:=by
 rw[kY];obtain⟨ds,d1,d2,d3,_⟩:=bE hx;simp only[lH,bI,d1,Option.map_some];by_cases hxs:xs=[]
 subst hxs;cases d1;rcases o with ⟨rfl,nl',cl',rfl,hc⟩|⟨e,cs,rfl,hg,hu⟩
 simp only[fM,List.length_nil,if_true];exact q1 rfl _;obtain⟨cs',c1,c2,_,_⟩:=bE he;rw[hu]at c1;cases c1;simp only[fM,hg,List.length_nil,if_true,true_and,Nat.zero_add];rw[if_pos (by omega)];exact q1 rfl _;have hn:xs.length≠0:=by simpa using hxs
 rcases o with ⟨rfl,nl',cl',rfl,hc⟩|⟨e,cs,rfl,hg,hu⟩
 simp only[fM,hn,if_false,hc,List.length_nil,Nat.zero_add,Bool.true_and];have hlx:xs.length<=1073741824:=by simpa using hl
 simp only[hlx,hb,decide_true,Bool.and_self,if_true,aP,List.nil_append];refine q2 hxs _ _ _ (.inr ⟨_,ds,rfl,?_,by simpa using d1⟩) ?_;rw[eS,aI,if_pos rfl];intro k hk _;rw[eS,aI,if_neg (Ne.symm hk)];obtain⟨cs',c1,c2,_,_⟩:=bE he;rw[hu]at c1;cases c1;have h1:¬(es.length+xs.length<=es.length):=by omega
 have h2:(k1==kb+s)=false:=by simpa using hk1
 simp only[fM,hg,hn,if_false,true_and,Nat.zero_add];rw[if_pos (by omega)];simp only[h1,if_false,hl,hb,decide_true,Bool.true_and,h2,Bool.not_false,if_true,Bool.false_eq_true];refine q2 hxs _ _ _ (.inr ⟨h.next (kb+s),cs++ds,by simp,?_,cG hu d1⟩) ?_;rw[l6,aI,if_pos rfl];simp[<-c2];intro k hk hk2;rw[l6,aI,if_neg (Ne.symm hk),aI,if_neg (Ne.symm hk2)]
theorem aTd{f s esz:Nat}{ag:Bool}{h:Hp}{vs es:List AV}{Q:AV->Eff->Prop}{t:Tok Q}(hr:bZ pg f vs (wJ esz ag es))(hm:treeL vs=true)
  (q:∀nl cl,(nl=true->es=[])->Q (.sl nl es cl) (.pat [kb+s] [])):XO pg kb (.call f false false) s h vs Q t:=by
 obtain⟨r,hr,⟨rfl,nl,cl,rfl,hc⟩|rfl⟩:=hr;exact cS hr hm rfl (q nl cl (λ_=>rfl));refine cL hr (cX 63 h hm) (v:=.sl false es false) (pa:=[]) rfl ?_;have:(if (AV.os es esz ag).flat then ([]:List Ent) else bF h [])++[]=[]:=by split<;>rfl
 rw[this];exact q false false (λh=>by cases h)
theorem aJl{f s esz:Nat}{ag:Bool}{h:Hp}{vs es:List AV}{Q:AV->Eff->Prop}{t:Tok Q}(hr:bZ pg f vs (wJ esz ag es))(hm:treeL vs=true)(he:∀x∈es,El esz ag x)
  (q:∀v rd pa,Own (Eff.app h (.pat rd pa)) (kb+s) esz ag v es->(∀k,k≠kb+s->(Eff.app h (.pat rd pa)).get k=h.get k)->(∀x∈pa,x.k=kb+s)->Q v (.pat rd pa)):XO pg kb (.call f true false) s h vs Q t:=by
 obtain⟨r,hr,⟨rfl,nl,cl,rfl,hc⟩|rfl⟩:=hr;exact cS hr hm rfl (q _ _ _ (Own.nil _ _ _ _ _ _ hc) (λ_ _=>rfl) (by simp));obtain⟨cs,c1,c2,_,_⟩:=bE he;refine cL hr (cX 63 h hm) (v:=.rf (kb+s) (h.next (kb+s)) 0 es.length es.length) (pa:=[⟨kb+s,h.next (kb+s),.blk cs esz ag false false⟩]) (by simp[fN,c1]) ?_;have:(if (AV.os es esz ag).flat then ([]:List Ent) else bF h [])=[]:=by split<;>rfl
 rw[this,List.nil_append];refine q _ _ _ (.inr ⟨_,cs,rfl,?_,c1⟩) ?_ (by simp);rw[eS,aI,if_pos rfl];intro k hk;rw[eS,aI,if_neg (Ne.symm hk)]
theorem BN{f s esz:Nat}{ag:Bool}{h:Hp}{vs es:List AV}{Q:AV->Eff->Prop}{t:Tok Q}(hr:bZ pg f vs (wJ esz ag es))(hm:treeL vs=true)(he:∀x∈es,El esz ag x)
  (q1:es=[]->∀nl cl,(nl||cl)=true->Q (.sl nl [] cl) (.pat [kb+s] []))
  (q2:∀cs,aP esz ag es=some cs->j6 esz ag es.length cs=some es->Q (.rf (kb+s) (h.next (kb+s)) 0 es.length es.length) (.pat [kb+s] [⟨kb+s,h.next (kb+s),.blk cs esz ag false false⟩])):XO pg kb (.call f true false) s h vs Q t:=by
 obtain⟨r,hr,⟨rfl,nl,cl,rfl,hc⟩|rfl⟩:=hr;exact cS hr hm rfl (q1 rfl nl cl hc);obtain⟨cs,c1,c2,_,c4⟩:=bE he;refine cL hr (cX 63 h hm) (v:=.rf (kb+s) (h.next (kb+s)) 0 es.length es.length) (pa:=[⟨kb+s,h.next (kb+s),.blk cs esz ag false false⟩]) (by simp[fN,c1]) ?_;have:(if (AV.os es esz ag).flat then ([]:List Ent) else bF h [])=[]:=by split<;>rfl
 rw[this,List.nil_append];exact q2 cs c1 (by simpa using c4 [])
end
end
section
def cD(c:UInt8):Bool:=decide (48<=c.toNat)&&decide (c.toNat<=57)
def cZ(c:UInt8):Bool:=decide (97<=c.toNat)&&decide (c.toNat<=122)
def c8(s:List UInt8):Bool:=
 match s with
 |[]=>false
 | c::t=>decide (s.length<=30)&&(if c=95 then decide (2<=s.length)&&decide (s.length<=10) && !decide (t.head?=some 48)&&t.all cD else cZ c&&t.all (λx=>cZ x||cD x))
def LB(i:Nat):List UInt8:=[105,UInt8.ofNat (48+i)]
def jB(n:Int):Bool:=decide (-1000000<=n)&&decide (n<=1000000)
def iW(p:List aN):List aN->Bool
 |[]=>true
 |x::r=>c8 x.v.bs && !decide (x.c=0)&&jB x.c&&(match p.getLast? with|none=>true|some q=>Op.bytesLess q.v.bs x.v.bs)&&iW (p++[x]) r
def gC(l:Lin):Bool:=iW [] l.ts.es&&jB l.c&&decide ((l.ts.es.length:Int)<=12)
section
variable{pg:Pg}
theorem c89(hf:pg.fs 89=some JM)(n:Int):Ret pg 89 [.int .i64 n] (.bool (jB n)):=by
 refine Ret.ofX hf ?_;unfold JM
 repeat' (first|simp only[*,go_sem,seval]|refine kA (λ_=>?_) (λ_=>?_)|refine kB (λ_=>?_) (λ_=>?_)|refine cC ?_)
 all_goals simp[jB, *]
theorem c126(hf:pg.fs 126=some vP)(s p:List UInt8):Ret pg 126 [.str s,.str p] (.bool (decide (p.length<=s.length)&&decide (s.take p.length=p))):=by
 refine Ret.ofX hf ?_;unfold vP;refine Wk ?_;cases h:decide (p.length<=s.length);have h':decide ((p.length:Int)<=s.length)=false:=by simp at h ⊢;omega
 simp only[h',go_sem,seval];have h':decide ((p.length:Int)<=s.length)=true:=by simp at h ⊢;omega
 simp only[h',go_sem,seval];have h2:(0:Int)<=p.length/\(p.length:Int)<=s.length:=by simp at h;omega
 simp[gT,h2,val,XV,KM];simp only[h',h2,go_sem,seval]
theorem c91(hf:pg.fs 91=some JK)(h126:pg.fs 126=some vP)(s p:List UInt8):Ret pg 91 [.str s,.str p] (.bool (decide (p.length<=s.length)&&decide (s.take p.length=p))):=by refine Ret.ofX hf ?_;unfold JK;refine Wk ?_;refine aG (c126 h126 s p) ?_;simp only[go_sem,seval]
theorem c51(hf:pg.fs 51=some NF)(h89:pg.fs 89=some JM)(h57:∀s:Str,Ret pg 57 [.str s.bs] (.bool (c8 s.bs)))(l:Lin):Ret pg 51 [l.av] (.bool (gC l)):=by
 refine Ret.ofX hf ?_;unfold NF;refine Wk ?_
 refine aY l.ts.es (λd r env hp=>hp.get 1=some (0,.blk [.int .i64 l.c,.sl l.ts.nl (l.ts.es.map aN.av) l.ts.cl] 2 true true false) /\
  env=F5 (.pt 1 0 0) (.sl l.ts.nl (l.ts.es.map aN.av) l.ts.cl) (.int .i64 l.ts.es.length) (.int .i64 d.length)/\gC l=(iW d r&&jB l.c&&decide ((l.ts.es.length:Int)<=12))) ?_ ?_ ?_
 exact⟨rfl,rfl,rfl⟩;rintro env hp ⟨h1,rfl,hq⟩;unfold F4 F5;simp only[Int.lt_irrefl,h1,go_sem,seval];refine aG (c89 h89 _) ?_;simp only[h1,go_sem,seval];simp only[iW]at hq;cases h9:jB l.c;refine Wk ?_;simp[hq,h9];simp only[h1,go_sem,seval];simp[hq,h9];rintro d x r env hp hes ⟨h1,rfl,hq⟩;have hb:=l.ts.ok;rw[hes]at hb h1 hq ⊢;unfold F4 F5;refine Wk ?_;refine aG (h57 x.v) ?_;simp only[iW]at hq;refine Wk ?_;cases hn:c8 x.v.bs;refine Wk ?_;refine cC ?_;simp[hq,hn];cases hc:decide (x.c=0)
 case true=>simp only[hc,go_sem,seval];refine cC ?_;simp[hq,hc]
 simp only[hc,go_sem,seval];refine aG (c89 h89 x.c) (Wk ?_);cases h9:jB x.c;refine Wk ?_;refine cC ?_;simp[hq,h9];cases hd:decide (0<(d.length:Int));simp only[hd,gJ hb,go_sem,seval];refine And.intro (by kernel_rfl) ⟨h1,rfl,?_⟩;have:d=[]:=by cases d<;>simp_all<;>omega
 subst this;simp[hq,h9,hc,hn];obtain⟨d',y,rfl⟩:∃d' y,d=d'++[y]:=by
  rcases EL d with rfl|⟨d',y,h⟩
  simp at hd;exact⟨d',y,by simpa using h⟩
 have hy:(d'++[y]++x::r)[(wr .i64 (((d'++[y]).length:Int)-1)).toNat]?=some y:=by
  have:wr .i64 (((d'++[y]).length:Int)-1)=(d'.length:Int):=by simp only[cA,List.length_cons,List.length_nil,big]at *;rw[eB (by omega) (by omega)];omega
  rw[this];simp
 have hy0:(0<=wr .i64 (((d'++[y]).length:Int)-1))=True:=by
  have:wr .i64 (((d'++[y]).length:Int)-1)=(d'.length:Int):=by simp only[cA,List.length_cons,List.length_nil,big]at *;rw[eB (by omega) (by omega)];omega
  rw[this];simp
 simp only[hd,h1,hy,hy0,go_sem,seval];cases hl:Op.bytesLess y.v.bs x.v.bs;refine Wk ?_;refine cC ?_;simp[hq,hl];simp only[gJ hb,go_sem,seval];refine And.intro (by kernel_rfl) ⟨h1,rfl,?_⟩;simp[hq,h9,hc,hn,hl]
theorem El.str(s:List UInt8):El 1 false (.str s):=⟨rfl,rfl,rfl⟩
theorem El.int(n:Int):El 1 false (.int .i64 n):=⟨rfl,rfl,rfl⟩
theorem El.bool(b:Bool):El 1 false (.bool b):=⟨rfl,rfl,rfl⟩
theorem c138(hf:pg.fs 138=some yF)(nl cl:Bool)(es:List Str)(hb:es.length<=big)(v:List UInt8) :
  bZ pg 138 [.sl nl (es.map Str.av) cl,.str v] (λr=>∃i:Int,r = .int .i64 i/\decide (0<=i)=es.any (λs=>decide (v=s.bs))):=
 P3 (f:=138) (k:=.bin .eql) hf Str.av (λ_=>rfl) nl cl es hb (.str v) (λs=>decide (v=s.bs)) (by intro kb s h x Q t;simp only[go_sem,seval])
theorem c98(hf:pg.fs 98=some MZ)(h138:pg.fs 138=some yF)(nl cl:Bool)(es:List Str)(hb:es.length<=big)(v:List UInt8) :
  Ret pg 98 [.sl nl (es.map Str.av) cl,.str v] (.bool (es.any (λs=>decide (v=s.bs)))):=
 sO (n:=138) hf (by simp only[go_sem,seval]) (c138 h138 nl cl es hb v)
def cN(vars:List Str)(v:List UInt8):Bool:=vars.any (λs=>decide (v=s.bs))
def bW(ls:List Lin)(vars:List Str):Bool:=ls.all λl=>gC l&&l.ts.es.all λx=>cN vars x.v.bs
def fA(x y:aN):Bool:=decide (x.v.bs=y.v.bs)&&decide (x.c=y.c)
def bU(a b:Lin):Bool:=decide (a.c=b.c)&&eqL fA a.ts.es b.ts.es
def kF(a b:bO):Bool:=decide (a.row.bs=b.row.bs)&&eqL bU a.dims.es b.dims.es
theorem c106(hf:pg.fs 106=some D8)(nl cl nl' cl':Bool)(es es':List aN)(hb:es.length<=big):Ret pg 106 [.sl nl (es.map aN.av) cl,.sl nl' (es'.map aN.av) cl'] (.bool (eqL fA es es')):=
 aIG (f:=106) (k:=.eqs true [1,0]) hf aN.av (λ_=>by simp only[go_sem,seval]) nl cl nl' cl' es es' hb fA (by intro kb s h x y Q t;simp only[go_sem,seval];simp[fA]) rfl
theorem c143(hf:pg.fs 143=some D3)(h106:pg.fs 106=some D8)(a b:Lin):Ret pg 143 [a.av,b.av] (.bool (bU a b)):=by refine Ret.ofX hf ?_;unfold D3;refine Wk ?_;cases h:decide (a.c=b.c);refine Wk ?_;simp[bU,h];refine Wk ?_;refine aG (c106 h106 _ _ _ _ a.ts.es b.ts.es a.ts.ok) (Wk ?_);simp[bU,h]
end
end
section
def cQ:List UInt8:=[105,110,116]
def gV:List UInt8:=[98,111,111,108]
def sA:List UInt8:=[65]
structure OV where
 op:List UInt8
 params:List (List UInt8)
 result:List UInt8
def B9:List OV:=[
 ⟨[97,100,100],[cQ,cQ],cQ⟩,⟨[115,117,98],[cQ,cQ],cQ⟩,⟨[109,117,108],[cQ,cQ],cQ⟩,⟨[100,105,118],[cQ,cQ],cQ⟩,⟨[109,111,100],[cQ,cQ],cQ⟩,
 ⟨[109,105,110],[cQ,cQ],cQ⟩,⟨[109,97,120],[cQ,cQ],cQ⟩,⟨[110,101,103],[cQ],cQ⟩,⟨[97,98,115],[cQ],cQ⟩,⟨[115,105,103,110],[cQ],cQ⟩,
 ⟨[108,116],[cQ,cQ],gV⟩,⟨[108,101],[cQ,cQ],gV⟩,⟨[103,116],[cQ,cQ],gV⟩,⟨[103,101],[cQ,cQ],gV⟩,⟨[101,113],[sA,sA],gV⟩,⟨[110,101],[sA,sA],gV⟩,
 ⟨[97,110,100],[gV,gV],gV⟩,⟨[111,114],[gV,gV],gV⟩,⟨[120,111,114],[gV,gV],gV⟩,⟨[110,111,116],[gV],gV⟩,
 ⟨[115,101,108,101,99,116],[gV,sA,sA],sA⟩,⟨[116,111,105,110,116],[gV],cQ⟩]
def OV.cells(r:OV):List AV:=[.str r.op,.sl false (r.params.map .str) true,.str r.result]
def k7(op:List UInt8):Option OV:=B9.find? λr=>decide (r.op=op)
section
variable{pg:Pg}
def oD(op:List UInt8)(r:AV):Prop:=
 match k7 op with
 |none=>r = .tup [.sl true [] true,.str [],.bool false]
 |some p=>∃nl cl,r = .tup [.sl nl (p.params.map .str) cl,.str p.result,.bool true]
def kL(n:Int):Bool:=decide (-2147483648<=n)&&decide (n<=2147483647)
def pN(n:Int):Bool:=decide (n=0)||decide (n=1)
def m9(l:List Int)(n:Int):Bool:=l.all λa=>decide (0<=a)&&decide (a<n)
def mN(s:aJ)(n:Int):Bool:=
 if s.op.bs=[99,111,110,115,116] then decide ((s.args.es.length:Int)=0)&&kL s.num
 else if s.op.bs=[116,114,117,116,104] then decide ((s.args.es.length:Int)=0)&&pN s.num
 else match k7 s.op.bs with
  |none=>false
  |some p=>m9 s.args.es n&&decide (s.num=0)&&decide ((s.args.es.length:Int)=(p.params.length:Int))
end
end
section
section
variable{pg:Pg}
theorem c205(hf:pg.fs 205=some vM)(nl cl:Bool)(es:List Lin)(hb:es.length<=big)(g:Nat)(cs:List AV)(hcs:treeL cs=true)(p:Lin->Bool)(hp:∀x∈es,Ret pg g (x.av::cs) (.bool (p x))) :
  bZ pg 205 [.sl nl (es.map Lin.av) cl,.fn g cs] (λr=>∃i:Int,r = .int .i64 i/\decide (0<=i)=es.any p):=
 zV (f:=205) (esz:=2) (ag:=true) hf Lin.av (λ_=>by simp only[go_sem,seval]) (λ_=>by simp only[go_sem,seval]) nl cl es hb g cs hcs p hp
theorem c175(hf:pg.fs 175=some yC)(h205:pg.fs 205=some vM)(nl cl:Bool)(es:List Lin)(hb:es.length<=big)(g:Nat)(cs:List AV)(hcs:treeL cs=true)(p:Lin->Bool)(hp:∀x∈es,Ret pg g (x.av::cs) (.bool (p x))) :
  Ret pg 175 [.sl nl (es.map Lin.av) cl,.fn g cs] (.bool (es.any p)):=
 sO (n:=205) hf (by simp only[treeL,sG,sH,hcs,Lin.treeL_av,Bool.and_true]) (c205 h205 nl cl es hb g cs hcs p hp)
end
end
section
def cV(n:Int):List aJ->Bool
 |[]=>true
 |s::r=>mN s n&&cV (n+1) r
def dH(fn:List aJ)(n:Int):Bool:=decide (0<=n)&&decide (n<=20)&&decide ((fn.length:Int)<=60) && !decide (n+fn.length=0)&&cV n fn
def fL(p:aE)(a b c d e f:Bool):Bool:=
 (a||decide (p.num=0))&&(b||decide (p.value=0))&&(c||decide (p.name.bs=[]))&&(d||decide ((p.at_.es.length:Int)=0))&&(e || !p.dyn&&decide (p.check=0))&&(f||decide ((p.fn.es.length:Int)=0))
def tJ(p:aE)(values:Int):Bool:=
 fL p false true false true true false&&decide (0<=p.value)&&decide (p.value<values)&&decide (0<=p.check) &&
  (if p.dyn then decide ((p.at_.es.length:Int)<=5)&&decide ((p.kids.length:Int)=1) else decide ((p.at_.es.length:Int)<=6)&&decide ((p.kids.length:Int)=0)&&decide (p.check=0))
section
variable{pg:Pg}
end
end
section
mutual
theorem aE.ind'{P:aE->Prop}(h:∀p:aE,(∀q∈p.kids,P q)->P p):∀p,P p
 |.mk op num value name at_ dyn check fn knl kids kcl=>h _ (aE.inds h kids)
theorem aE.inds{P:aE->Prop}(h:∀p:aE,(∀q∈p.kids,P q)->P p):∀l:List aE,∀q∈l,P q
 |[]=>by simp
 |x::r=>List.forall_mem_cons.2 ⟨aE.ind' h x,aE.inds h r⟩
end
mutual
def jA:aE->Int
 |.mk _ _ _ _ _ _ _ _ _ kids _=>iM 1 kids
def iM(a:Int):List aE->Int
 |[]=>a
 |p::r=>iM (wr .i64 (a+jA p)) r
end
theorem IR(p:aE):jA p=iM 1 p.kids:=by cases p;rw[jA];rfl
theorem rO:∀(d:List aE)(a:Int)(x:aE),iM a (d++[x])=wr .i64 (iM a d+jA x)
 |[],a,x=>by simp[iM]
 |y::d,a,x=>by simp only[List.cons_append,iM];exact rO d _ x
section
variable{pg:Pg}
theorem El.strs(l:List Str):∀x∈l.map Str.av,El 1 false x:=by intro x hx;simp only[List.mem_map]at hx;obtain⟨y,_,rfl⟩:=hx;exact⟨rfl,rfl,rfl⟩
end
end
section
def iP(p:aE)(vars:List Str)(values:Int):Bool:=
 if p.op.bs=[99,111,110,115,116] then fL p true false false false false false&&decide ((p.kids.length:Int)=0)&&kL p.num
 else if p.op.bs=[108,105,110,101,97,114] then fL p false false false true false false&&decide ((p.kids.length:Int)=0)&&decide ((p.at_.es.length:Int)=1)
 else if p.op.bs=[114,101,97,100] then tJ p values
 else if p.op.bs=[105,102] then fL p false false false true false false&&decide ((p.kids.length:Int)=2)&&decide ((p.at_.es.length:Int)=1)
 else if p.op.bs=[114,101,100,117,99,101] then fL p false false true true false true&&decide ((p.kids.length:Int)=2)&&decide ((p.at_.es.length:Int)=1)&&c8 p.name.bs && !cN vars p.name.bs&&dH p.fn.es 2
 else if p.op.bs=[99,111,100,101] then fL p false false false false false true&&dH p.fn.es p.kids.length
 else match k7 p.op.bs with
  |none=>false
  |some q=>fL p false false false false false false&&decide ((p.kids.length:Int)=(q.params.length:Int))
section
variable{pg:Pg}
end
end
end Go.Tev
