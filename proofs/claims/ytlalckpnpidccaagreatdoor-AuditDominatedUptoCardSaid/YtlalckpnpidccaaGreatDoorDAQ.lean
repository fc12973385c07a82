import Derived.Test.YtlalckpnpidccaaGreatDoorDAP
import Derived.Test.YtlalckpnpidccaaGreatDoorDAI
import Derived.Test.YtlalckpnpidccaaGreatDoorDAM
set_option linter.all false
namespace Go.Tev
section
structure El(esz:Nat)(ag:Bool)(v:AV):Prop where
 fits:v.fits esz ag=true
 one:bC v.cells=true
 tree:v.tree=true
theorem El.len{esz:Nat}{ag:Bool}{v:AV}(h:El esz ag v):v.cells.length=esz:=by have:=h.fits;cases v<;>simp[AV.fits,AV.cells]at this ⊢ <;> first|exact this.2|exact this.2.symm|omega
theorem El.isAgg{esz:Nat}{ag:Bool}{v:AV}(h:El esz ag v):v.isAgg=ag:=by have:=h.fits;cases v<;>cases ag<;>simp[AV.fits,AV.isAgg]at this ⊢
theorem d8{esz:Nat}{ag:Bool}:∀{es:List AV},(∀x∈es,El esz ag x)->∃cs,bG esz ag es=some cs/\cs.length=es.length*esz/\bC cs=true/\∀tl,iR esz ag es.length (cs++tl)=some es
 |[],_=>⟨[],rfl,by simp,rfl,λ_=>rfl⟩
 |x::r,h=>by
  obtain⟨cs,h1,h2,h3,h4⟩:=d8 (λy hy=>h y (bJ _ hy));have hx:=h x (by simp);have hl:=hx.len;refine⟨x.cells++cs,?_,?_,?_,?_⟩;simp[bG,hx.fits,hx.one,h1];simp[h2,hl,Nat.add_mul];omega;have happ:∀(p q:List AV),bC p=true->bC q=true->bC (p++q)=true:=by
   intro p q hp hq
   induction p with
   |nil=>exact hq
   |cons y s ih=>simp only[bC,aA,List.cons_append]at hp ⊢;exact⟨hp.1,ih hp.2⟩
  exact happ _ _ hx.one h3;intro tl;have hag:=hx.isAgg;cases ag with
  |true=>
   obtain⟨c,rfl⟩:∃c,x = .agg c:=by cases x<;>simp[AV.isAgg]at hag;exact⟨_,rfl⟩
   simp only[AV.cells]at hl;simp only[List.length_cons,iR,AV.cells,if_true,List.append_assoc];rw[if_neg (by simp[hl])];rw[<-hl];simp only[List.drop_left,List.take_left];rw[hl,h4 tl];rfl
  |false=>
   have hc:x.cells=[x]:=by cases x<;>simp[AV.isAgg]at hag<;>rfl
   have he:esz=1:=by rw[hc]at hl;simpa using hl.symm
   subst he;simp only[List.length_cons,iR,hc,Bool.false_eq_true,if_false,List.cons_append,List.nil_append,hag,h4 tl];rfl
theorem FQ{h:Hp}{esz:Nat}{ag:Bool}{es:List AV}(he:∀x∈es,El esz ag x):b7 (snap depth h) es=some (es,[]):=by
 refine fH 63 h ?_
 induction es with
 |nil=>rfl
 |cons x r ih=>simp only[treeL,aA];exact⟨(he x (by simp)).tree,ih (λy hy=>he y (bJ _ hy))⟩
def Own(h:Hp)(k0 esz:Nat)(ag:Bool)(v:AV)(es:List AV):Prop:=
 (es=[]/\∃nl cl,v = .sl nl [] cl/\(nl||cl)=true) \/
 (∃e cs,v = .rf k0 e 0 es.length es.length/\h.get k0=some (e,.blk cs esz ag false false)/\bG esz ag es=some cs)
theorem Own.mono{h h':Hp}{k0 esz:Nat}{ag:Bool}{v:AV}{es:List AV}(o:Own h k0 esz ag v es)(hh:h'.get k0=h.get k0):Own h' k0 esz ag v es:=by
 rcases o with o|⟨e,cs,h2,h3,h4⟩
 exact .inl o;exact .inr ⟨e,cs,h2,by rw[hh];exact h3,h4⟩
theorem Own.nil(h:Hp)(k0 esz:Nat)(ag:Bool)(nl cl:Bool)(hc:(nl||cl)=true):Own h k0 esz ag (.sl nl [] cl) []:=.inl ⟨rfl,nl,cl,rfl,hc⟩
def x7(esz:Nat)(ag:Bool)(es:List AV)(r:AV):Prop:=
 (es=[]/\∃nl cl,r = .sl nl [] cl/\(nl||cl)=true)\/r = .os es esz ag
theorem Own.conv{h:Hp}{k0 esz:Nat}{ag:Bool}{v:AV}{es:List AV}(o:Own h k0 esz ag v es)(he:∀x∈es,El esz ag x):∃r,Tev.conv h v=some r/\x7 esz ag es r:=by
 rcases o with ⟨rfl,nl,cl,rfl,hc⟩|⟨e,cs,rfl,hg,hu⟩
 exact⟨.sl nl [] cl,n8 rfl,.inl ⟨rfl,nl,cl,rfl,hc⟩⟩;obtain⟨cs',h1,h2,h3,h4⟩:=d8 he;rw[hu]at h1;cases h1;have h5:=h4 [];rw[List.append_nil]at h5;refine⟨.os es esz ag,?_,.inr rfl⟩;simp[Tev.conv,hg,h5,FQ he]
theorem fL{esz:Nat}{ag:Bool}:∀{a b:List AV}{c d:List AV},bG esz ag a=some c->bG esz ag b=some d->bG esz ag (a++b)=some (c++d)
 |[],b,c,d,h1,h2=>by cases h1;exact h2
 |x::r,b,c,d,h1,h2=>by simp only[bG]at h1;split at h1;rename_i hc;simp only[fX]at h1;obtain⟨c',h3,rfl⟩:=h1;simp[bG,hc,fL h3 h2];cases h1
section
variable{pg:Pg}{kb:Nat}
theorem x4{esz bytes s:Nat}{ag:Bool}{h:Hp}{v:AV}{es xs:List AV}{nl cl:Bool}{Q:AV->Eff->Prop}{t:Tok Q}(o:Own h (kb+s) esz ag v es)(he:∀x∈es,El esz ag x)(hx:∀x∈xs,El esz ag x)
  (hl:es.length+xs.length<=1073741824) (hb:bytes<=65536)
  (q:∀v' rd pa,Own (Eff.app h (.pat rd pa)) (kb+s) esz ag v' (es++xs)->(∀k,k≠kb+s->(Eff.app h (.pat rd pa)).get k=h.get k)->(∀x∈pa,x.k=kb+s)->Q v' (.pat rd pa)) :
  XO pg kb (.app esz ag bytes) s h [v,.sl nl xs cl] Q t:=by
 rw[JN];obtain⟨ds,d1,d2,d3,_⟩:=d8 hx;simp only[zL,bS,d1,Option.map_some];by_cases hxs:xs=[]
 subst hxs;cases d1;rcases o with ⟨rfl,nl',cl',rfl,hc⟩|⟨e,cs,rfl,hg,hu⟩
 simp only[j3,List.length_nil,if_true];exact q _ _ _ (.inl ⟨rfl,nl',cl',rfl,hc⟩) (λ_ _=>rfl) (by simp);obtain⟨cs',c1,c2,_,_⟩:=d8 he;rw[hu]at c1;cases c1;simp only[j3,hg,List.length_nil,if_true,true_and,Nat.zero_add];rw[if_pos (by omega)];exact q _ _ _ (.inr ⟨e,cs,by simp,by simpa[Eff.app,bB] using hg,by simpa using hu⟩) (λ_ _=>rfl) (by simp);have hn:xs.length≠0:=by simpa using hxs
 rcases o with ⟨rfl,nl',cl',rfl,hc⟩|⟨e,cs,rfl,hg,hu⟩
 simp only[j3,hn,if_false,hc,List.length_nil,Nat.zero_add,Bool.true_and];have hlx:xs.length<=1073741824:=by simpa using hl
 simp only[hlx,hb,decide_true,Bool.and_self,if_true,bG,List.nil_append];refine q _ _ _ (.inr ⟨_,ds,rfl,?_,by simpa using d1⟩) ?_ (by simp);rw[fS,aG,if_pos rfl];intro k hk;rw[fS,aG,if_neg (Ne.symm hk)];obtain⟨cs',c1,c2,_,_⟩:=d8 he;rw[hu]at c1;cases c1;have h1:¬(es.length+xs.length<=es.length):=by omega
 simp only[j3,hg,hn,if_false,true_and,Nat.zero_add];rw[if_pos (by omega)];simp only[h1,if_false,hl,hb,decide_true,Bool.true_and,beq_self_eq_true,Bool.not_true,Bool.and_false,Bool.false_eq_true,Bool.not_false,if_true];refine q _ _ _ (.inr ⟨e+1,cs++ds,by simp,?_,fL hu d1⟩) ?_ (by simp);rw[fS,aG,if_pos rfl];simp[<-c2];intro k hk;rw[fS,aG,if_neg (Ne.symm hk)]
theorem JJ{f s esz:Nat}{ag:Bool}{h:Hp}{vs es:List AV}{Q:AV->Eff->Prop}{t:Tok Q}(hr:fT pg f vs (x7 esz ag es))(hm:treeL vs=true)
  (q:∀nl cl,(nl=true->es=[])->Q (.sl nl es cl) (.pat [kb+s] [])):XO pg kb (.call f false false) s h vs Q t:=by
 obtain⟨r,hr,⟨rfl,nl,cl,rfl,hc⟩|rfl⟩:=hr;exact bQ hr hm rfl (q nl cl (λ_=>rfl));refine iX hr (fH 63 h hm) (v:=.sl false es false) (pa:=[]) rfl ?_;have:(if (AV.os es esz ag).flat then ([]:List Ent) else bE h [])++[]=[]:=by split<;>rfl
 rw[this];exact q false false (λh=>by cases h)
theorem WI{f s esz:Nat}{ag:Bool}{h:Hp}{vs es:List AV}{Q:AV->Eff->Prop}{t:Tok Q}(hr:fT pg f vs (x7 esz ag es))(hm:treeL vs=true)(he:∀x∈es,El esz ag x)
  (q:∀v rd pa,Own (Eff.app h (.pat rd pa)) (kb+s) esz ag v es->(∀k,k≠kb+s->(Eff.app h (.pat rd pa)).get k=h.get k)->(∀x∈pa,x.k=kb+s)->Q v (.pat rd pa)):XO pg kb (.call f true false) s h vs Q t:=by
 obtain⟨r,hr,⟨rfl,nl,cl,rfl,hc⟩|rfl⟩:=hr;exact bQ hr hm rfl (q _ _ _ (Own.nil _ _ _ _ _ _ hc) (λ_ _=>rfl) (by simp));obtain⟨cs,c1,c2,_,_⟩:=d8 he;refine iX hr (fH 63 h hm) (v:=.rf (kb+s) (h.next (kb+s)) 0 es.length es.length) (pa:=[⟨kb+s,h.next (kb+s),.blk cs esz ag false false⟩]) (by simp[e9,c1]) ?_;have:(if (AV.os es esz ag).flat then ([]:List Ent) else bE h [])=[]:=by split<;>rfl
 rw[this,List.nil_append];refine q _ _ _ (.inr ⟨_,cs,rfl,?_,c1⟩) ?_ (by simp);rw[fS,aG,if_pos rfl];intro k hk;rw[fS,aG,if_neg (Ne.symm hk)]
theorem N6{f s esz:Nat}{ag:Bool}{h:Hp}{vs es:List AV}{Q:AV->Eff->Prop}{t:Tok Q}(hr:fT pg f vs (x7 esz ag es))(hm:treeL vs=true)(he:∀x∈es,El esz ag x)
  (q1:es=[]->∀nl cl,(nl||cl)=true->Q (.sl nl [] cl) (.pat [kb+s] []))
  (q2:∀cs,bG esz ag es=some cs->iR esz ag es.length cs=some es->Q (.rf (kb+s) (h.next (kb+s)) 0 es.length es.length) (.pat [kb+s] [⟨kb+s,h.next (kb+s),.blk cs esz ag false false⟩])):XO pg kb (.call f true false) s h vs Q t:=by
 obtain⟨r,hr,⟨rfl,nl,cl,rfl,hc⟩|rfl⟩:=hr;exact bQ hr hm rfl (q1 rfl nl cl hc);obtain⟨cs,c1,c2,_,c4⟩:=d8 he;refine iX hr (fH 63 h hm) (v:=.rf (kb+s) (h.next (kb+s)) 0 es.length es.length) (pa:=[⟨kb+s,h.next (kb+s),.blk cs esz ag false false⟩]) (by simp[e9,c1]) ?_;have:(if (AV.os es esz ag).flat then ([]:List Ent) else bE h [])=[]:=by split<;>rfl
 rw[this,List.nil_append];exact q2 cs c1 (by simpa using c4 [])
end
end
section
def bO(c:UInt8):Bool:=decide (48<=c.toNat)&&decide (c.toNat<=57)
def cL(c:UInt8):Bool:=decide (97<=c.toNat)&&decide (c.toNat<=122)
def cJ(s:List UInt8):Bool:=
 match s with
 |[]=>false
 | c::t=>decide (s.length<=30)&&(if c=95 then decide (2<=s.length)&&decide (s.length<=10) && !decide (t.head?=some 48)&&t.all bO else cL c&&t.all (λx=>cL x||bO x))
def zO(s:List UInt8):Bool:=
 match s with
 |[]=>false
 |c::t=>decide (s.length<=30)&&(decide (65<=c.toNat)&&decide (c.toNat<=90))&&t.all bO
def GP(i:Nat):List UInt8:=[105,UInt8.ofNat (48+i)]
def mC(n:Int):Bool:=decide (-1000000<=n)&&decide (n<=1000000)
def mM(p:List bP):List bP->Bool
 |[]=>true
 |x::r=>cJ x.v.bs && !decide (x.c=0)&&mC x.c&&(match p.getLast? with|none=>true|some q=>Op.bytesLess q.v.bs x.v.bs)&&mM (p++[x]) r
def CW(l:Lin):Bool:=mM [] l.ts.es&&mC l.c&&decide ((l.ts.es.length:Int)<=12)
section
variable{pg:Pg}
theorem c89(hf:pg.fs 89=some IV)(n:Int):Ret pg 89 [.int .i64 n] (.bool (mC n)):=by
 refine Ret.ofX hf ?_;unfold IV
 repeat' (first|simp only[*,go_sem,seval]|refine AK (λ_=>?_) (λ_=>?_)|refine AL (λ_=>?_) (λ_=>?_)|refine dJ ?_)
 all_goals simp[mC, *]
theorem c126(hf:pg.fs 126=some rT)(s p:List UInt8):Ret pg 126 [.str s,.str p] (.bool (decide (p.length<=s.length)&&decide (s.take p.length=p))):=by
 refine Ret.ofX hf ?_;unfold rT;refine Wk ?_;cases h:decide (p.length<=s.length);have h':decide ((p.length:Int)<=s.length)=false:=by simp at h ⊢;omega
 simp only[h',go_sem,seval];have h':decide ((p.length:Int)<=s.length)=true:=by simp at h ⊢;omega
 simp only[h',go_sem,seval];have h2:(0:Int)<=p.length/\(p.length:Int)<=s.length:=by simp at h;omega
 simp[fZ,h2,val,XV,D9];simp only[h',h2,go_sem,seval]
theorem c91(hf:pg.fs 91=some E5)(h126:pg.fs 126=some rT)(s p:List UInt8):Ret pg 91 [.str s,.str p] (.bool (decide (p.length<=s.length)&&decide (s.take p.length=p))):=by refine Ret.ofX hf ?_;unfold E5;refine Wk ?_;refine aP (c126 h126 s p) ?_;simp only[go_sem,seval]
theorem c51(hf:pg.fs 51=some MA)(h89:pg.fs 89=some IV)(h57:∀s:Str,Ret pg 57 [.str s.bs] (.bool (cJ s.bs)))(l:Lin):Ret pg 51 [l.av] (.bool (CW l)):=by
 refine Ret.ofX hf ?_;unfold MA;refine Wk ?_
 refine bD l.ts.es (λd r env hp=>hp.get 1=some (0,.blk [.int .i64 l.c,.sl l.ts.nl (l.ts.es.map bP.av) l.ts.cl] 2 true true false) /\
  env=B5 (.pt 1 0 0) (.sl l.ts.nl (l.ts.es.map bP.av) l.ts.cl) (.int .i64 l.ts.es.length) (.int .i64 d.length)/\CW l=(mM d r&&mC l.c&&decide ((l.ts.es.length:Int)<=12))) ?_ ?_ ?_
 exact⟨rfl,rfl,rfl⟩;rintro env hp ⟨h1,rfl,hq⟩;unfold B4 B5;simp only[Int.lt_irrefl,h1,go_sem,seval];refine aP (c89 h89 _) ?_;simp only[h1,go_sem,seval];simp only[mM]at hq;cases h9:mC l.c;refine Wk ?_;simp[hq,h9];simp only[h1,go_sem,seval];simp[hq,h9];rintro d x r env hp hes ⟨h1,rfl,hq⟩;have hb:=l.ts.ok;rw[hes]at hb h1 hq ⊢;unfold B4 B5;refine Wk ?_;refine aP (h57 x.v) ?_;simp only[mM]at hq;refine Wk ?_;cases hn:cJ x.v.bs;refine Wk ?_;refine dJ ?_;simp[hq,hn];cases hc:decide (x.c=0)
 case true=>simp only[hc,go_sem,seval];refine dJ ?_;simp[hq,hc]
 simp only[hc,go_sem,seval];refine aP (c89 h89 x.c) (Wk ?_);cases h9:mC x.c;refine Wk ?_;refine dJ ?_;simp[hq,h9];cases hd:decide (0<(d.length:Int));simp only[hd,bI hb,go_sem,seval];refine And.intro (by kernel_rfl) ⟨h1,rfl,?_⟩;have:d=[]:=by cases d<;>simp_all<;>omega
 subst this;simp[hq,h9,hc,hn];obtain⟨d',y,rfl⟩:∃d' y,d=d'++[y]:=by
  rcases pV d with rfl|⟨d',y,h⟩
  simp at hd;exact⟨d',y,by simpa using h⟩
 have hy:(d'++[y]++x::r)[(wr .i64 (((d'++[y]).length:Int)-1)).toNat]?=some y:=by
  have:wr .i64 (((d'++[y]).length:Int)-1)=(d'.length:Int):=by simp only[bW,List.length_cons,List.length_nil,big]at *;rw[dZ (by omega) (by omega)];omega
  rw[this];simp
 have hy0:(0<=wr .i64 (((d'++[y]).length:Int)-1))=True:=by
  have:wr .i64 (((d'++[y]).length:Int)-1)=(d'.length:Int):=by simp only[bW,List.length_cons,List.length_nil,big]at *;rw[dZ (by omega) (by omega)];omega
  rw[this];simp
 simp only[hd,h1,hy,hy0,go_sem,seval];cases hl:Op.bytesLess y.v.bs x.v.bs;refine Wk ?_;refine dJ ?_;simp[hq,hl];simp only[bI hb,go_sem,seval];refine And.intro (by kernel_rfl) ⟨h1,rfl,?_⟩;simp[hq,h9,hc,hn,hl]
theorem El.str(s:List UInt8):El 1 false (.str s):=⟨rfl,rfl,rfl⟩
theorem El.int(n:Int):El 1 false (.int .i64 n):=⟨rfl,rfl,rfl⟩
theorem El.bool(b:Bool):El 1 false (.bool b):=⟨rfl,rfl,rfl⟩
def ZF(vars:List Str)(v:List UInt8):Bool:=vars.any (λs=>decide (v=s.bs))
def vQ(ls:List Lin)(vars:List Str):Bool:=ls.all λl=>CW l&&l.ts.es.all λx=>ZF vars x.v.bs
theorem c137(hf:pg.fs 137=some uQ)(nl cl:Bool)(es:List Str)(hb:es.length<=big)(g:Nat)(cs:List AV)(hcs:treeL cs=true)(p:Str->Bool)(hp:∀x∈es,Ret pg g (x.av::cs) (.bool (p x))) :
  fT pg 137 [.sl nl (es.map Str.av) cl,.fn g cs] (λr=>∃i:Int,r = .int .i64 i/\decide (0<=i)=es.any p):=
 CY (f:=137) (esz:=1) (ag:=false) hf Str.av (λ_=>rfl) (λ_=>rfl) nl cl es hb g cs hcs p hp
theorem c95(hf:pg.fs 95=some IU)(h137:pg.fs 137=some uQ)(nl cl:Bool)(es:List Str)(hb:es.length<=big)(g:Nat)(cs:List AV)(hcs:treeL cs=true)(p:Str->Bool)(hp:∀x∈es,Ret pg g (x.av::cs) (.bool (p x))) :
  Ret pg 95 [.sl nl (es.map Str.av) cl,.fn g cs] (.bool (es.any p)):=
 DA (n:=137) hf (by simp only[treeL,u7,u9,hcs,Str.treeL,Bool.and_true]) (c137 h137 nl cl es hb g cs hcs p hp)
def wF(x y:bP):Bool:=decide (x.v.bs=y.v.bs)&&decide (x.c=y.c)
def tJ(a b:Lin):Bool:=decide (a.c=b.c)&&eqL wF a.ts.es b.ts.es
def J5(a b:bL):Bool:=decide (a.row.bs=b.row.bs)&&eqL tJ a.dims.es b.dims.es
def XZ(a b:Typ):Bool:=decide (a.elem.bs=b.elem.bs)&&J5 a.shape b.shape
theorem c106(hf:pg.fs 106=some DJ)(nl cl nl' cl':Bool)(es es':List bP)(hb:es.length<=big):Ret pg 106 [.sl nl (es.map bP.av) cl,.sl nl' (es'.map bP.av) cl'] (.bool (eqL wF es es')):=
 U5 (f:=106) (k:=.eqs true [1,0]) hf bP.av (λ_=>by simp only[go_sem,seval]) nl cl nl' cl' es es' hb wF (by intro kb s h x y Q t;simp only[go_sem,seval];simp[wF]) rfl
theorem c143(hf:pg.fs 143=some DI)(h106:pg.fs 106=some DJ)(a b:Lin):Ret pg 143 [a.av,b.av] (.bool (tJ a b)):=by refine Ret.ofX hf ?_;unfold DI;refine Wk ?_;cases h:decide (a.c=b.c);refine Wk ?_;simp[tJ,h];refine Wk ?_;refine aP (c106 h106 _ _ _ _ a.ts.es b.ts.es a.ts.ok) (Wk ?_);simp[tJ,h]
end
end
section
def cX:List UInt8:=[105,110,116]
def fM:List UInt8:=[98,111,111,108]
def sA:List UInt8:=[65]
structure OJ where
 op:List UInt8
 params:List (List UInt8)
 result:List UInt8
def F3:List OJ:=[
 ⟨[97,100,100],[cX,cX],cX⟩,⟨[115,117,98],[cX,cX],cX⟩,⟨[109,117,108],[cX,cX],cX⟩,⟨[100,105,118],[cX,cX],cX⟩,⟨[109,111,100],[cX,cX],cX⟩,
 ⟨[109,105,110],[cX,cX],cX⟩,⟨[109,97,120],[cX,cX],cX⟩,⟨[110,101,103],[cX],cX⟩,⟨[97,98,115],[cX],cX⟩,⟨[115,105,103,110],[cX],cX⟩,
 ⟨[108,116],[cX,cX],fM⟩,⟨[108,101],[cX,cX],fM⟩,⟨[103,116],[cX,cX],fM⟩,⟨[103,101],[cX,cX],fM⟩,⟨[101,113],[sA,sA],fM⟩,⟨[110,101],[sA,sA],fM⟩,
 ⟨[97,110,100],[fM,fM],fM⟩,⟨[111,114],[fM,fM],fM⟩,⟨[120,111,114],[fM,fM],fM⟩,⟨[110,111,116],[fM],fM⟩,
 ⟨[115,101,108,101,99,116],[fM,sA,sA],sA⟩,⟨[116,111,105,110,116],[fM],cX⟩]
def OJ.cells(r:OJ):List AV:=[.str r.op,.sl false (r.params.map .str) true,.str r.result]
def F2(op:List UInt8):Option OJ:=F3.find? λr=>decide (r.op=op)
section
variable{pg:Pg}
def C7(n:Int):Bool:=decide (-2147483648<=n)&&decide (n<=2147483647)
def KS(n:Int):Bool:=decide (n=0)||decide (n=1)
def V8(l:List Int)(n:Int):Bool:=l.all λa=>decide (0<=a)&&decide (a<n)
def S0(s:bF)(n:Int):Bool:=
 if s.op.bs=[99,111,110,115,116] then decide ((s.args.es.length:Int)=0)&&C7 s.num
 else if s.op.bs=[116,114,117,116,104] then decide ((s.args.es.length:Int)=0)&&KS s.num
 else match F2 s.op.bs with
  |none=>false
  |some p=>V8 s.args.es n&&decide (s.num=0)&&decide ((s.args.es.length:Int)=(p.params.length:Int))
end
end
section
def aBd(s:List UInt8):Bool:=
 match s with
 | c::d::t=>(decide ((c.toNat:Int)=105)||decide ((c.toNat:Int)=106))&&(d::t).all bO
 |_=>false
def J4(s:bL):Bool:=(decide (s.row.bs=[])||cJ s.row.bs)&&decide ((s.dims.es.length:Int)<=6)&&s.dims.es.all CW
def XY(t:Typ):Bool:=(decide (t.elem.bs=[105,110,116])||decide (t.elem.bs=[98,111,111,108])||zO t.elem.bs)&&J4 t.shape
def JW(t:Typ)(vars:List Str):Bool:=XY t && !zO t.elem.bs&&decide (t.shape.row.bs=[])&&vQ t.shape.dims.es vars
def FI(p:List Str):List Str->Bool
 |[]=>true
 |x::r=>cJ x.bs && !aBd x.bs&&(match p.getLast? with|none=>true|some q=>Op.bytesLess q.bs x.bs)&&FI (p++[x]) r
section
variable{pg:Pg}
theorem c205(hf:pg.fs 205=some DG)(nl cl:Bool)(es:List Lin)(hb:es.length<=big)(g:Nat)(cs:List AV)(hcs:treeL cs=true)(p:Lin->Bool)(hp:∀x∈es,Ret pg g (x.av::cs) (.bool (p x))) :
  fT pg 205 [.sl nl (es.map Lin.av) cl,.fn g cs] (λr=>∃i:Int,r = .int .i64 i/\decide (0<=i)=es.any p):=
 CY (f:=205) (esz:=2) (ag:=true) hf Lin.av (λ_=>by simp only[go_sem,seval]) (λ_=>by simp only[go_sem,seval]) nl cl es hb g cs hcs p hp
theorem c175(hf:pg.fs 175=some IY)(h205:pg.fs 205=some DG)(nl cl:Bool)(es:List Lin)(hb:es.length<=big)(g:Nat)(cs:List AV)(hcs:treeL cs=true)(p:Lin->Bool)(hp:∀x∈es,Ret pg g (x.av::cs) (.bool (p x))) :
  Ret pg 175 [.sl nl (es.map Lin.av) cl,.fn g cs] (.bool (es.any p)):=
 DA (n:=205) hf (by simp only[treeL,u7,u9,hcs,Lin.treeL_av,Bool.and_true]) (c205 h205 nl cl es hb g cs hcs p hp)
def nQ(k:aB):Bool:=
 FI [] k.vars.es&&(decide ((k.vars.es.length:Int)<=12)&&vQ k.wher.es k.vars.es&&decide (0<=k.inputs)&&decide (k.inputs<=8)&&decide (k.inputs<=k.values.es.length)&&decide ((k.values.es.length:Int)<=k.inputs+400) &&
  decide ((k.list.es.length:Int)<=400)&&k.values.es.all λt=>JW t k.vars.es)
end
end
section
def CM(n:Int):List bF->Bool
 |[]=>true
 |s::r=>S0 s n&&CM (n+1) r
def BX(fn:List bF)(n:Int):Bool:=decide (0<=n)&&decide (n<=20)&&decide ((fn.length:Int)<=60) && !decide (n+fn.length=0)&&CM n fn
def mG(p:aF)(a b c d e f:Bool):Bool:=
 (a||decide (p.num=0))&&(b||decide (p.value=0))&&(c||decide (p.name.bs=[]))&&(d||decide ((p.at_.es.length:Int)=0))&&(e || !p.dyn&&decide (p.check=0))&&(f||decide ((p.fn.es.length:Int)=0))
def vP(p:aF)(values:Int):Bool:=
 mG p false true false true true false&&decide (0<=p.value)&&decide (p.value<values)&&decide (0<=p.check) &&
  (if p.dyn then decide ((p.at_.es.length:Int)<=5)&&decide ((p.kids.length:Int)=1) else decide ((p.at_.es.length:Int)<=6)&&decide ((p.kids.length:Int)=0)&&decide (p.check=0))
section
variable{pg:Pg}
end
end
section
mutual
theorem aF.ind'{P:aF->Prop}(h:∀p:aF,(∀q∈p.kids,P q)->P p):∀p,P p
 |.mk op num value name at_ dyn check fn knl kids kcl=>h _ (aF.inds h kids)
theorem aF.inds{P:aF->Prop}(h:∀p:aF,(∀q∈p.kids,P q)->P p):∀l:List aF,∀q∈l,P q
 |[]=>by simp
 |x::r=>List.forall_mem_cons.2 ⟨aF.ind' h x,aF.inds h r⟩
end
mutual
def GC:aF->Int
 |.mk _ _ _ _ _ _ _ _ _ kids _=>GD 1 kids
def GD(a:Int):List aF->Int
 |[]=>a
 |p::r=>GD (wr .i64 (a+GC p)) r
end
section
variable{pg:Pg}
theorem El.strs(l:List Str):∀x∈l.map Str.av,El 1 false x:=by intro x hx;simp only[List.mem_map]at hx;obtain⟨y,_,rfl⟩:=hx;exact⟨rfl,rfl,rfl⟩
end
end
section
def vT(p:aF)(vars:List Str)(values:Int):Bool:=
 if p.op.bs=[99,111,110,115,116] then mG p true false false false false false&&decide ((p.kids.length:Int)=0)&&C7 p.num
 else if p.op.bs=[108,105,110,101,97,114] then mG p false false false true false false&&decide ((p.kids.length:Int)=0)&&decide ((p.at_.es.length:Int)=1)
 else if p.op.bs=[114,101,97,100] then vP p values
 else if p.op.bs=[105,102] then mG p false false false true false false&&decide ((p.kids.length:Int)=2)&&decide ((p.at_.es.length:Int)=1)
 else if p.op.bs=[114,101,100,117,99,101] then mG p false false true true false true&&decide ((p.kids.length:Int)=2)&&decide ((p.at_.es.length:Int)=1)&&cJ p.name.bs && !ZF vars p.name.bs&&BX p.fn.es 2
 else if p.op.bs=[99,111,100,101] then mG p false false false false false true&&BX p.fn.es p.kids.length
 else match F2 p.op.bs with
  |none=>false
  |some q=>mG p false false false false false false&&decide ((p.kids.length:Int)=(q.params.length:Int))
section
variable{pg:Pg}
end
end
end Go.Tev
