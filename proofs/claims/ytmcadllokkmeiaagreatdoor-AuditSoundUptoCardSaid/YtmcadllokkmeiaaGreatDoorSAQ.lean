import Derived.Test.YtmcadllokkmeiaaGreatDoorSAP
import Derived.Test.YtmcadllokkmeiaaGreatDoorSAH
import Derived.Test.YtmcadllokkmeiaaGreatDoorSAM
set_option linter.all false
section
namespace Go.Tev
structure El(esz:Nat)(ag:Bool)(v:AV):Prop where
 fits:v.fits esz ag=true
 one:bQ v.cells=true
 tree:v.tree=true
theorem El.len{esz:Nat}{ag:Bool}{v:AV}(h:El esz ag v):v.cells.length=esz:=by
 have:=h.fits
 cases v<;>simp[AV.fits,AV.cells]at this ⊢ <;> first|exact this.2|exact this.2.symm|omega
theorem El.isAgg{esz:Nat}{ag:Bool}{v:AV}(h:El esz ag v):v.isAgg=ag:=by
 have:=h.fits
 cases v<;>cases ag<;>simp[AV.fits,AV.isAgg]at this ⊢
theorem cK{esz:Nat}{ag:Bool}:∀{es:List AV},(∀x∈es,El esz ag x)->∃cs,bB esz ag es=some cs/\cs.length=es.length*esz/\bQ cs=true/\∀tl,lV esz ag es.length (cs++tl)=some es
 |[],_=>⟨[],rfl,by simp,rfl,fun _=>rfl⟩
 |x::r,h=>by
  obtain⟨cs,h1,h2,h3,h4⟩:=cK (fun y hy=>h y (List.mem_cons_of_mem _ hy))
  have hx:=h x (by simp)
  have hl:=hx.len
  refine⟨x.cells++cs,?_,?_,?_,?_⟩
  ·simp[bB,hx.fits,hx.one,h1]
  ·simp[h2,hl,Nat.add_mul];omega
  ·have happ:∀(p q:List AV),bQ p=true->bQ q=true->bQ (p++q)=true:=by
    intro p q hp hq
    induction p with
    |nil=>exact hq
    |cons y s ih=>simp only[bQ,Bool.and_eq_true,List.cons_append]at hp ⊢;exact⟨hp.1,ih hp.2⟩
   exact happ _ _ hx.one h3
  ·intro tl
   have hag:=hx.isAgg
   cases ag with
   |true=>
    obtain⟨c,rfl⟩:∃c,x = .agg c:=by cases x<;>simp[AV.isAgg]at hag;exact⟨_,rfl⟩
    simp only[AV.cells]at hl
    simp only[List.length_cons,lV,AV.cells,if_true,List.append_assoc]
    rw[if_neg (by simp[hl])]
    rw[<-hl]
    simp only[List.drop_left,List.take_left]
    rw[hl,h4 tl];rfl
   |false=>
    have hc:x.cells=[x]:=by cases x<;>simp[AV.isAgg]at hag<;>rfl
    have he:esz=1:=by rw[hc]at hl;simpa using hl.symm
    subst he
    simp only[List.length_cons,lV,hc,Bool.false_eq_true,if_false,List.cons_append,List.nil_append,hag,h4 tl]
    rfl
theorem CN{h:Hp}{esz:Nat}{ag:Bool}{es:List AV}(he:∀x∈es,El esz ag x):cE (snap depth h) es=some (es,[]):=by
 refine d6 63 h ?_
 induction es with
 |nil=>rfl
 |cons x r ih=>simp only[treeL,Bool.and_eq_true];exact⟨(he x (by simp)).tree,ih (fun y hy=>he y (List.mem_cons_of_mem _ hy))⟩
def Own(h:Hp)(k0 esz:Nat)(ag:Bool)(v:AV)(es:List AV):Prop:=
 (es=[]/\∃nl cl,v = .sl nl [] cl/\(nl||cl)=true) \/
 (∃e cs,v = .rf k0 e 0 es.length es.length/\h.get k0=some (e,.blk cs esz ag false false)/\bB esz ag es=some cs)
theorem Own.mono{h h':Hp}{k0 esz:Nat}{ag:Bool}{v:AV}{es:List AV}(o:Own h k0 esz ag v es)(hh:h'.get k0=h.get k0):Own h' k0 esz ag v es:=by
 rcases o with o|⟨e,cs,h2,h3,h4⟩
 ·exact .inl o
 ·exact .inr ⟨e,cs,h2,by rw[hh];exact h3,h4⟩
theorem Own.nil(h:Hp)(k0 esz:Nat)(ag:Bool)(nl cl:Bool)(hc:(nl||cl)=true):Own h k0 esz ag (.sl nl [] cl) []:=.inl ⟨rfl,nl,cl,rfl,hc⟩
def lO(esz:Nat)(ag:Bool)(es:List AV)(r:AV):Prop:=
 (es=[]/\∃nl cl,r = .sl nl [] cl/\(nl||cl)=true)\/r = .os es esz ag
theorem Own.conv{h:Hp}{k0 esz:Nat}{ag:Bool}{v:AV}{es:List AV}(o:Own h k0 esz ag v es)(he:∀x∈es,El esz ag x):∃r,Tev.conv h v=some r/\lO esz ag es r:=by
 rcases o with ⟨rfl,nl,cl,rfl,hc⟩|⟨e,cs,rfl,hg,hu⟩
 ·exact⟨.sl nl [] cl,uP rfl,.inl ⟨rfl,nl,cl,rfl,hc⟩⟩
 ·obtain⟨cs',h1,h2,h3,h4⟩:=cK he
  rw[hu]at h1
  cases h1
  have h5:=h4 []
  rw[List.append_nil]at h5
  refine⟨.os es esz ag,?_,.inr rfl⟩
  simp[Tev.conv,hg,h5,CN he]
theorem hY{esz:Nat}{ag:Bool}:∀{a b:List AV}{c d:List AV},bB esz ag a=some c->bB esz ag b=some d->bB esz ag (a++b)=some (c++d)
 |[],b,c,d,h1,h2=>by cases h1;exact h2
 |x::r,b,c,d,h1,h2=>by
  simp only[bB]at h1
  split at h1
  ·rename_i hc
   simp only[Option.map_eq_some_iff]at h1
   obtain⟨c',h3,rfl⟩:=h1
   simp[bB,hc,hY h3 h2]
  ·cases h1
section
variable{pg:Pg}{kb:Nat}
theorem eU{esz bytes s:Nat}{ag:Bool}{h:Hp}{v:AV}{es xs:List AV}{nl cl:Bool}{Q:AV->Eff->Prop}{t:Tok Q}(o:Own h (kb+s) esz ag v es)(he:∀x∈es,El esz ag x)(hx:∀x∈xs,El esz ag x)
  (hl:es.length+xs.length<=1073741824) (hb:bytes<=65536)
  (q:∀v' rd pa,Own (Eff.app h (.pat rd pa)) (kb+s) esz ag v' (es++xs)->(∀k,k≠kb+s->(Eff.app h (.pat rd pa)).get k=h.get k)->(∀x∈pa,x.k=kb+s)->Q v' (.pat rd pa)) :
  XO pg kb (.app esz ag bytes) s h [v,.sl nl xs cl] Q t:=by
 rw[gF]
 obtain⟨ds,d1,d2,d3,_⟩:=cK hx
 simp only[lU,aP,d1,Option.map_some]
 by_cases hxs:xs=[]
 ·subst hxs
  cases d1
  rcases o with ⟨rfl,nl',cl',rfl,hc⟩|⟨e,cs,rfl,hg,hu⟩
  ·simp only[kJ,List.length_nil,if_true]
   exact q _ _ _ (.inl ⟨rfl,nl',cl',rfl,hc⟩) (fun _ _=>rfl) (by simp)
  ·obtain⟨cs',c1,c2,_,_⟩:=cK he
   rw[hu]at c1;cases c1
   simp only[kJ,hg,List.length_nil,if_true,true_and,Nat.zero_add]
   rw[if_pos (by omega)]
   exact q _ _ _ (.inr ⟨e,cs,by simp,by simpa[Eff.app,cF] using hg,by simpa using hu⟩) (fun _ _=>rfl) (by simp)
 ·have hn:xs.length≠0:=by simpa using hxs
  rcases o with ⟨rfl,nl',cl',rfl,hc⟩|⟨e,cs,rfl,hg,hu⟩
  ·simp only[kJ,hn,if_false,hc,List.length_nil,Nat.zero_add,Bool.true_and]
   have hlx:xs.length<=1073741824:=by simpa using hl
   simp only[hlx,hb,decide_true,Bool.and_self,if_true,bB,List.nil_append]
   refine q _ _ _ (.inr ⟨_,ds,rfl,?_,by simpa using d1⟩) ?_ (by simp)
   ·rw[kI,aD,if_pos rfl]
   ·intro k hk
    rw[kI,aD,if_neg (Ne.symm hk)]
  ·obtain⟨cs',c1,c2,_,_⟩:=cK he
   rw[hu]at c1;cases c1
   have h1:¬(es.length+xs.length<=es.length):=by omega
   simp only[kJ,hg,hn,if_false,true_and,Nat.zero_add]
   rw[if_pos (by omega)]
   simp only[h1,if_false,hl,hb,decide_true,Bool.true_and,beq_self_eq_true,Bool.not_true,Bool.and_false,Bool.false_eq_true,Bool.not_false,if_true]
   refine q _ _ _ (.inr ⟨e+1,cs++ds,by simp,?_,hY hu d1⟩) ?_ (by simp)
   ·rw[kI,aD,if_pos rfl]
    simp[<-c2]
   ·intro k hk
    rw[kI,aD,if_neg (Ne.symm hk)]
theorem CB{esz bytes s k1:Nat}{ag:Bool}{h:Hp}{v:AV}{es xs:List AV}{nl cl:Bool}{Q:AV->Eff->Prop}{t:Tok Q}(o:Own h k1 esz ag v es)(hk1:k1≠kb+s)(he:∀x∈es,El esz ag x)(hx:∀x∈xs,El esz ag x)
  (hl:es.length+xs.length<=1073741824) (hb:bytes<=65536)
  (q1:xs=[]->∀rd,Q v (.pat rd []))
  (q2:xs≠[]->∀v' rd pa,Own (Eff.app h (.pat rd pa)) (kb+s) esz ag v' (es++xs)->(∀k,k≠kb+s->k≠k1->(Eff.app h (.pat rd pa)).get k=h.get k)->Q v' (.pat rd pa)) :
  XO pg kb (.app esz ag bytes) s h [v,.sl nl xs cl] Q t:=by
 rw[gF]
 obtain⟨ds,d1,d2,d3,_⟩:=cK hx
 simp only[lU,aP,d1,Option.map_some]
 by_cases hxs:xs=[]
 ·subst hxs
  cases d1
  rcases o with ⟨rfl,nl',cl',rfl,hc⟩|⟨e,cs,rfl,hg,hu⟩
  ·simp only[kJ,List.length_nil,if_true]
   exact q1 rfl _
  ·obtain⟨cs',c1,c2,_,_⟩:=cK he
   rw[hu]at c1;cases c1
   simp only[kJ,hg,List.length_nil,if_true,true_and,Nat.zero_add]
   rw[if_pos (by omega)]
   exact q1 rfl _
 ·have hn:xs.length≠0:=by simpa using hxs
  rcases o with ⟨rfl,nl',cl',rfl,hc⟩|⟨e,cs,rfl,hg,hu⟩
  ·simp only[kJ,hn,if_false,hc,List.length_nil,Nat.zero_add,Bool.true_and]
   have hlx:xs.length<=1073741824:=by simpa using hl
   simp only[hlx,hb,decide_true,Bool.and_self,if_true,bB,List.nil_append]
   refine q2 hxs _ _ _ (.inr ⟨_,ds,rfl,?_,by simpa using d1⟩) ?_
   ·rw[kI,aD,if_pos rfl]
   ·intro k hk _
    rw[kI,aD,if_neg (Ne.symm hk)]
  ·obtain⟨cs',c1,c2,_,_⟩:=cK he
   rw[hu]at c1;cases c1
   have h1:¬(es.length+xs.length<=es.length):=by omega
   have h2:(k1==kb+s)=false:=by simpa using hk1
   simp only[kJ,hg,hn,if_false,true_and,Nat.zero_add]
   rw[if_pos (by omega)]
   simp only[h1,if_false,hl,hb,decide_true,Bool.true_and,h2,Bool.not_false,if_true,Bool.false_eq_true]
   refine q2 hxs _ _ _ (.inr ⟨h.next (kb+s),cs++ds,by simp,?_,hY hu d1⟩) ?_
   ·rw[tK,aD,if_pos rfl]
    simp[<-c2]
   ·intro k hk hk2
    rw[tK,aD,if_neg (Ne.symm hk),aD,if_neg (Ne.symm hk2)]
theorem j3{f s esz:Nat}{ag:Bool}{h:Hp}{vs es:List AV}{Q:AV->Eff->Prop}{t:Tok Q}(hr:bL pg f vs (lO esz ag es))(hm:treeL vs=true)
  (q:∀nl cl,(nl=true->es=[])->Q (.sl nl es cl) (.pat [kb+s] [])):XO pg kb (.call f false false) s h vs Q t:=by
 obtain⟨r,hr,⟨rfl,nl,cl,rfl,hc⟩|rfl⟩:=hr
 ·exact aB hr hm rfl (q nl cl (fun _=>rfl))
 ·refine bT hr (d6 63 h hm) (v:=.sl false es false) (pa:=[]) rfl ?_
  have:(if (AV.os es esz ag).flat then ([]:List Ent) else cC h [])++[]=[]:=by split<;>rfl
  rw[this]
  exact q false false (fun h=>by cases h)
theorem u4{f s esz:Nat}{ag:Bool}{h:Hp}{vs es:List AV}{Q:AV->Eff->Prop}{t:Tok Q}(hr:bL pg f vs (lO esz ag es))(hm:treeL vs=true)(he:∀x∈es,El esz ag x)
  (q:∀v rd pa,Own (Eff.app h (.pat rd pa)) (kb+s) esz ag v es->(∀k,k≠kb+s->(Eff.app h (.pat rd pa)).get k=h.get k)->(∀x∈pa,x.k=kb+s)->Q v (.pat rd pa)):XO pg kb (.call f true false) s h vs Q t:=by
 obtain⟨r,hr,⟨rfl,nl,cl,rfl,hc⟩|rfl⟩:=hr
 ·exact aB hr hm rfl (q _ _ _ (Own.nil _ _ _ _ _ _ hc) (fun _ _=>rfl) (by simp))
 ·obtain⟨cs,c1,c2,_,_⟩:=cK he
  refine bT hr (d6 63 h hm) (v:=.rf (kb+s) (h.next (kb+s)) 0 es.length es.length) (pa:=[⟨kb+s,h.next (kb+s),.blk cs esz ag false false⟩]) (by simp[fG,c1]) ?_
  have:(if (AV.os es esz ag).flat then ([]:List Ent) else cC h [])=[]:=by split<;>rfl
  rw[this,List.nil_append]
  refine q _ _ _ (.inr ⟨_,cs,rfl,?_,c1⟩) ?_ (by simp)
  ·rw[kI,aD,if_pos rfl]
  ·intro k hk
   rw[kI,aD,if_neg (Ne.symm hk)]
theorem HM{f s esz:Nat}{ag:Bool}{h:Hp}{vs es:List AV}{Q:AV->Eff->Prop}{t:Tok Q}(hr:bL pg f vs (lO esz ag es))(hm:treeL vs=true)(he:∀x∈es,El esz ag x)
  (q1:es=[]->∀nl cl,(nl||cl)=true->Q (.sl nl [] cl) (.pat [kb+s] []))
  (q2:∀cs,bB esz ag es=some cs->lV esz ag es.length cs=some es->Q (.rf (kb+s) (h.next (kb+s)) 0 es.length es.length) (.pat [kb+s] [⟨kb+s,h.next (kb+s),.blk cs esz ag false false⟩])):XO pg kb (.call f true false) s h vs Q t:=by
 obtain⟨r,hr,⟨rfl,nl,cl,rfl,hc⟩|rfl⟩:=hr
 ·exact aB hr hm rfl (q1 rfl nl cl hc)
 ·obtain⟨cs,c1,c2,_,c4⟩:=cK he
  refine bT hr (d6 63 h hm) (v:=.rf (kb+s) (h.next (kb+s)) 0 es.length es.length) (pa:=[⟨kb+s,h.next (kb+s),.blk cs esz ag false false⟩]) (by simp[fG,c1]) ?_
  have:(if (AV.os es esz ag).flat then ([]:List Ent) else cC h [])=[]:=by split<;>rfl
  rw[this,List.nil_append]
  exact q2 cs c1 (by simpa using c4 [])
end
end Go.Tev
end
section
namespace Go.Tev
def aV(c:UInt8):Bool:=decide (48<=c.toNat)&&decide (c.toNat<=57)
def fC(c:UInt8):Bool:=decide (97<=c.toNat)&&decide (c.toNat<=122)
def fJ(s:List UInt8):Bool:=
 match s with
 |[]=>false
 | c::t=>decide (s.length<=30)&&(if c=95 then decide (2<=s.length)&&decide (s.length<=10) && !decide (t.head?=some 48)&&t.all aV else fC c&&t.all (fun x=>fC x||aV x))
def fD(s:List UInt8):Bool:=
 match s with
 |[]=>false
 |c::t=>decide (s.length<=30)&&(decide (65<=c.toNat)&&decide (c.toNat<=90))&&t.all aV
def p9(i:Nat):List UInt8:=[105,UInt8.ofNat (48+i)]
def lR(n:Int):Bool:=decide (-1000000<=n)&&decide (n<=1000000)
def mX(p:List bR):List bR->Bool
 |[]=>true
 |x::r=>fJ x.v.bs && !decide (x.c=0)&&lR x.c&&(match p.getLast? with|none=>true|some q=>Op.bytesLess q.v.bs x.v.bs)&&mX (p++[x]) r
def d9(l:Lin):Bool:=mX [] l.ts.es&&lR l.c&&decide ((l.ts.es.length:Int)<=12)
section
variable{pg:Pg}
theorem c89(hf:pg.fs 89=some cf89)(n:Int):Ret pg 89 [.int .i64 n] (.bool (lR n)):=by
 refine Ret.ofX hf ?_
 unfold cf89
 repeat' (first|simp only[*,go_sem,seval]|refine aK (fun _=>?_) (fun _=>?_)|refine aL (fun _=>?_) (fun _=>?_)|refine And.intro (by kernel_rfl) ?_)
 all_goals simp[lR, *]
theorem c126(hf:pg.fs 126=some cf126)(s p:List UInt8):Ret pg 126 [.str s,.str p] (.bool (decide (p.length<=s.length)&&decide (s.take p.length=p))):=by
 refine Ret.ofX hf ?_
 unfold cf126
 simp only[go_sem,seval]
 cases h:decide (p.length<=s.length)
 ·have h':decide ((p.length:Int)<=s.length)=false:=by simp at h ⊢;omega
  simp only[h',go_sem,seval]
 ·have h':decide ((p.length:Int)<=s.length)=true:=by simp at h ⊢;omega
  simp only[h',go_sem,seval]
  have h2:(0:Int)<=p.length/\(p.length:Int)<=s.length:=by simp at h;omega
  simp[gM,h2,val,XV,FA]
  simp only[h',h2,go_sem,seval]
theorem c91(hf:pg.fs 91=some cf91)(h126:pg.fs 126=some cf126)(s p:List UInt8):Ret pg 91 [.str s,.str p] (.bool (decide (p.length<=s.length)&&decide (s.take p.length=p))):=by
 refine Ret.ofX hf ?_
 unfold cf91
 simp only[go_sem,seval]
 refine aB (c126 h126 s p) (by simp only[go_sem,seval]) rfl ?_
 simp only[go_sem,seval]
theorem c51(hf:pg.fs 51=some cf51)(h89:pg.fs 89=some cf89)(h57:∀s:Str,Ret pg 57 [.str s.bs] (.bool (fJ s.bs)))(l:Lin):Ret pg 51 [l.av] (.bool (d9 l)):=by
 refine Ret.ofX hf ?_
 unfold cf51
 simp only[go_sem,seval]
 refine aG l.ts.es (fun d r env hp=>hp.get 1=some (0,.blk [.int .i64 l.c,.sl l.ts.nl (l.ts.es.map bR.av) l.ts.cl] 2 true true false) /\
  env=cf51E0 (.pt 1 0 0) (.sl l.ts.nl (l.ts.es.map bR.av) l.ts.cl) (.int .i64 l.ts.es.length) (.int .i64 d.length)/\d9 l=(mX d r&&lR l.c&&decide ((l.ts.es.length:Int)<=12))) ?_ ?_ ?_
 ·exact⟨rfl,rfl,rfl⟩
 ·rintro env hp ⟨h1,rfl,hq⟩
  unfold cf51L0 cf51E0
  simp only[Int.lt_irrefl,h1,go_sem,seval]
  refine aB (c89 h89 _) (by simp only[go_sem,seval]) rfl ?_
  simp only[h1,go_sem,seval]
  simp only[mX]at hq
  cases h9:lR l.c
  ·simp only[go_sem,seval]
   simp[hq,h9]
  ·simp only[h1,go_sem,seval]
   simp[hq,h9]
 ·rintro d x r env hp hes ⟨h1,rfl,hq⟩
  have hb:=l.ts.ok
  rw[hes]at hb h1 hq ⊢
  unfold cf51L0 cf51E0
  simp only[go_sem,seval]
  refine aB (h57 x.v) (by simp only[go_sem,seval]) rfl ?_
  simp only[mX]at hq
  simp only[go_sem,seval]
  cases hn:fJ x.v.bs
  ·simp only[go_sem,seval]
   refine And.intro (by kernel_rfl) ?_
   simp[hq,hn]
  cases hc:decide (x.c=0)
  case true=>
   simp only[hc,go_sem,seval]
   refine And.intro (by kernel_rfl) ?_
   simp[hq,hc]
  simp only[hc,go_sem,seval]
  refine aB (c89 h89 x.c) (by simp only[go_sem,seval]) rfl ?_
  simp only[go_sem,seval]
  cases h9:lR x.c
  ·simp only[go_sem,seval]
   refine And.intro (by kernel_rfl) ?_
   simp[hq,h9]
  cases hd:decide (0<(d.length:Int))
  ·simp only[hd,aM hb,go_sem,seval]
   refine And.intro (by kernel_rfl) ⟨h1,rfl,?_⟩
   have:d=[]:=by cases d<;>simp_all<;>omega
   subst this
   simp[hq,h9,hc,hn]
  ·obtain⟨d',y,rfl⟩:∃d' y,d=d'++[y]:=by
    rcases List.eq_nil_or_concat d with rfl|⟨d',y,h⟩
    ·simp at hd
    ·exact⟨d',y,by simpa using h⟩
   have hy:(d'++[y]++x::r)[(wr .i64 (((d'++[y]).length:Int)-1)).toNat]?=some y:=by
    have:wr .i64 (((d'++[y]).length:Int)-1)=(d'.length:Int):=by
     simp only[List.length_append,List.length_cons,List.length_nil,big]at *
     rw[aR (by omega) (by omega)];omega
    rw[this];simp
   have hy0:(0<=wr .i64 (((d'++[y]).length:Int)-1))=True:=by
    have:wr .i64 (((d'++[y]).length:Int)-1)=(d'.length:Int):=by
     simp only[List.length_append,List.length_cons,List.length_nil,big]at *
     rw[aR (by omega) (by omega)];omega
    rw[this];simp
   simp only[hd,h1,hy,hy0,go_sem,seval]
   cases hl:Op.bytesLess y.v.bs x.v.bs
   ·simp only[go_sem,seval]
    refine And.intro (by kernel_rfl) ?_
    simp[hq,hl]
   ·simp only[aM hb,go_sem,seval]
    refine And.intro (by kernel_rfl) ⟨h1,rfl,?_⟩
    simp[hq,h9,hc,hn,hl]
theorem El.str(s:List UInt8):El 1 false (.str s):=⟨rfl,rfl,rfl⟩
theorem El.int(n:Int):El 1 false (.int .i64 n):=⟨rfl,rfl,rfl⟩
theorem El.bool(b:Bool):El 1 false (.bool b):=⟨rfl,rfl,rfl⟩
theorem c96(hf:pg.fs 96=some cf96)(l:Lin):bL pg 96 [l.av] (lO 1 false (l.ts.es.map fun x => .str x.v.bs)):=by
 refine bL.ofX hf ?_
 have hb:=l.ts.ok
 have hel:∀d:List bR,∀x∈d.map (fun x:bR=>AV.str x.v.bs),El 1 false x:=by
  intro d x hx
  simp only[List.mem_map]at hx
  obtain⟨y,_,rfl⟩:=hx
  exact El.str _
 unfold cf96
 simp only[go_sem,seval]
 refine aG l.ts.es (fun d r env hp=>∃v,env=cf96E0 v (.sl l.ts.nl (l.ts.es.map bR.av) l.ts.cl) (.int .i64 l.ts.es.length) (.int .i64 d.length)/\Own hp 9 1 false v (d.map fun x => .str x.v.bs)) ?_ ?_ ?_
 ·exact⟨_,rfl,Own.nil _ _ _ _ _ _ rfl⟩
 ·rintro env hp ⟨v,rfl,ho⟩
  simp only[cf96L0,cf96E0,go_sem,seval]
  exact ho.conv (hel _)
 ·rintro d x r env hp hes ⟨v,rfl,ho⟩
  rw[hes]at hb ⊢
  simp only[cf96L0,cf96E0,go_sem,seval]
  refine eU (kb:=0) (s:=9) (bytes:=16) (es:=d.map fun x => .str x.v.bs) (ho.mono ?_) (hel _) (xs:=[.str x.v.bs]) (by intro y hy;simp at hy;subst hy;exact El.str _) ?_ (by decide) ?_
  ·simp only[go_sem,seval]
  ·simp only[List.length_append,List.length_cons,List.length_nil,List.length_map,big]at *;omega
  ·intro v' rd pa ho' hk hpa
   simp only[aM hb,go_sem,seval]
   exact⟨v',rfl,by simpa using ho'⟩
theorem c138(hf:pg.fs 138=some cf138)(nl cl:Bool)(es:List Str)(hb:es.length<=big)(v:List UInt8) :
  bL pg 138 [.sl nl (es.map Str.av) cl,.str v] (fun r=>∃i:Int,r = .int .i64 i/\decide (0<=i)=es.any (fun s=>decide (v=s.bs))):=
 BS (f:=138) (k:=.bin .eql) hf Str.av (fun _=>rfl) nl cl es hb (.str v) (fun s=>decide (v=s.bs)) (by intro kb s h x Q t;simp only[go_sem,seval])
theorem c98(hf:pg.fs 98=some cf98)(h138:pg.fs 138=some cf138)(nl cl:Bool)(es:List Str)(hb:es.length<=big)(v:List UInt8) :
  Ret pg 98 [.sl nl (es.map Str.av) cl,.str v] (.bool (es.any (fun s=>decide (v=s.bs)))):=
 nI (n:=138) hf (by simp only[go_sem,seval]) (c138 h138 nl cl es hb v)
def jR(vars:List Str)(v:List UInt8):Bool:=vars.any (fun s=>decide (v=s.bs))
def bZ(ls:List Lin)(vars:List Str):Bool:=ls.all fun l=>d9 l&&l.ts.es.all fun x=>jR vars x.v.bs
theorem c97{f:Nat}(hf:pg.fs f=some cf97)(h98:pg.fs 98=some cf98)(h138:pg.fs 138=some cf138)(nl cl:Bool)(es:List Str)(hb:es.length<=big)(v:List UInt8) :
  Ret pg f [.str v,.fp (.sl nl (es.map Str.av) cl)] (.bool (!jR es v)):=by
 refine Ret.ofX hf ?_
 unfold cf97
 simp only[go_sem,seval]
 refine aB (c98 h98 h138 nl cl es hb v) (by simp only[go_sem,seval]) rfl ?_
 simp only[go_sem,seval]
 rfl
theorem c137(hf:pg.fs 137=some cf137)(nl cl:Bool)(es:List Str)(hb:es.length<=big)(g:Nat)(cs:List AV)(hcs:treeL cs=true)(p:Str->Bool)(hp:∀x∈es,Ret pg g (x.av::cs) (.bool (p x))) :
  bL pg 137 [.sl nl (es.map Str.av) cl,.fn g cs] (fun r=>∃i:Int,r = .int .i64 i/\decide (0<=i)=es.any p):=
 s8 (f:=137) (esz:=1) (ag:=false) hf Str.av (fun _=>rfl) (fun _=>rfl) nl cl es hb g cs hcs p hp
theorem c95(hf:pg.fs 95=some cf95)(h137:pg.fs 137=some cf137)(nl cl:Bool)(es:List Str)(hb:es.length<=big)(g:Nat)(cs:List AV)(hcs:treeL cs=true)(p:Str->Bool)(hp:∀x∈es,Ret pg g (x.av::cs) (.bool (p x))) :
  Ret pg 95 [.sl nl (es.map Str.av) cl,.fn g cs] (.bool (es.any p)):=
 nI (n:=137) hf (by simp only[treeL,mW,qM,hcs,Str.treeL,Bool.and_true]) (c137 h137 nl cl es hb g cs hcs p hp)
theorem C5{f g:Nat}(hf:pg.fs f=some (PI g))(h51:∀l:Lin,Ret pg 51 [l.av] (.bool (d9 l)))(h96:pg.fs 96=some cf96)(h95:pg.fs 95=some cf95)(h137:pg.fs 137=some cf137)(h97:pg.fs g=some cf97)(h98:pg.fs 98=some cf98)(h138:pg.fs 138=some cf138)
  (nl cl:Bool) (ls:List Lin) (hb:ls.length<=big) (nl' cl':Bool) (vars:List Str) (hb':vars.length<=big):Ret pg f [.sl nl (ls.map Lin.av) cl,.sl nl' (vars.map Str.av) cl'] (.bool (bZ ls vars)):=by
 refine Ret.ofX hf ?_
 unfold PI
 simp only[go_sem,seval]
 refine cZ ls (fun d e=>dS e (some 9) (.int .i64 d.length)) (fun d r hp=>(∃fz,hp.get 1=some (0,.blk [.sl nl' (vars.map Str.av) cl'] 1 false true fz))/\bZ ls vars=bZ r vars) rfl ?_ ?_ ?_
 ·exact⟨⟨_,rfl⟩,rfl⟩
 ·rintro hp ⟨⟨fz,h1⟩,hI⟩
  simp only[E9,E8,go_sem,seval]
  rw[hI];rfl
 ·rintro d x r hp hes ⟨⟨fz,h1⟩,hI⟩
  subst hes
  simp only[E9,E8,go_sem,seval]
  refine aB (h51 x) (by simp only[go_sem,seval]) rfl ?_
  simp only[go_sem,seval]
  cases hx:d9 x
  ·simp only[go_sem,seval]
   rw[hI];simp[bZ,hx]
  simp only[go_sem,seval]
  refine j3 (c96 h96 x) (by simp only[go_sem,seval]) ?_
  intro nl2 cl2 hnl
  simp only[go_sem,seval]
  have hv:∀y∈x.ts.es.map (fun c=>c.v),Ret pg g (y.av::[.fp (.sl nl' (vars.map Str.av) cl')]) (.bool (!jR vars y.bs)):=fun y _=>c97 h97 h98 h138 nl' cl' vars hb' y.bs
  have h9:=c95 h95 h137 nl2 cl2 (x.ts.es.map fun c=>c.v) (by have:=x.ts.ok;simpa using this) g [.fp (.sl nl' (vars.map Str.av) cl')] (by simp only[go_sem,seval]) (fun y => !jR vars y.bs) hv
  have hm:List.map (fun x=>AV.str x.v.bs) x.ts.es=List.map Str.av (x.ts.es.map fun c=>c.v):=by simp[Str.av]
  rw[hm]
  refine bT (h9) (by simp only[ h1,depth,cD,bA,eI,go_sem,seval];rfl) (by first|rfl|simp only[fG]) ?_
  simp only[go_sem,seval]
  have hany:(List.map (fun c=>c.v) x.ts.es).any (fun y => !jR vars y.bs) = !(x.ts.es.all fun c=>jR vars c.v.bs):=by
   simp[List.any_map,List.not_all_eq_any_not];rfl
  rw[hany]
  cases hy:x.ts.es.all fun c=>jR vars c.v.bs
  ·simp only[go_sem,seval]
   rw[hI];simp[bZ,hx,hy]
  ·simp only[h1,aM hb,go_sem,seval]
   exact⟨⟨fz,rfl⟩,by simpa[bZ,hx,hy] using hI⟩
def gP(x y:bR):Bool:=decide (x.v.bs=y.v.bs)&&decide (x.c=y.c)
def bJ(a b:Lin):Bool:=decide (a.c=b.c)&&eqL gP a.ts.es b.ts.es
def fF(a b:bF):Bool:=decide (a.row.bs=b.row.bs)&&eqL bJ a.dims.es b.dims.es
def gG(a b:Typ):Bool:=decide (a.elem.bs=b.elem.bs)&&fF a.shape b.shape
theorem c106(hf:pg.fs 106=some cf106)(nl cl nl' cl':Bool)(es es':List bR)(hb:es.length<=big):Ret pg 106 [.sl nl (es.map bR.av) cl,.sl nl' (es'.map bR.av) cl'] (.bool (eqL gP es es')):=
 L5 (f:=106) (k:=.eqs true [1,0]) hf bR.av (fun _=>by simp only[go_sem,seval]) nl cl nl' cl' es es' hb gP (by intro kb s h x y Q t;simp only[go_sem,seval];simp[gP]) rfl
theorem c142(hf:pg.fs 142=some cf142)(h106:pg.fs 106=some cf106)(a b:Lin):Ret pg 142 [a.av,b.av] (.bool (bJ a b)):=by
 refine Ret.ofX hf ?_
 unfold cf142
 simp only[go_sem,seval]
 cases h:decide (a.c=b.c)
 ·simp only[go_sem,seval]
  simp[bJ,h]
 ·simp only[go_sem,seval]
  refine aB (c106 h106 _ _ _ _ a.ts.es b.ts.es a.ts.ok) (by simp only[go_sem,seval]) rfl ?_
  simp only[go_sem,seval]
  simp[bJ,h]
theorem c68(hf:pg.fs 68=some cf68)(h106:pg.fs 106=some cf106)(a b:Lin):Ret pg 68 [a.av,b.av] (.bool (bJ a b)):=by
 refine Ret.ofX hf ?_
 unfold cf68
 simp only[go_sem,seval]
 cases h:decide (a.c=b.c)
 ·simp only[go_sem,seval]
  simp[bJ,h]
 ·simp only[go_sem,seval]
  refine aB (c106 h106 _ _ _ _ a.ts.es b.ts.es a.ts.ok) (by simp only[go_sem,seval]) rfl ?_
  simp only[go_sem,seval]
  simp[bJ,h]
theorem c143(hf:pg.fs 143=some cf143)(h106:pg.fs 106=some cf106)(a b:Lin):Ret pg 143 [a.av,b.av] (.bool (bJ a b)):=by
 refine Ret.ofX hf ?_
 unfold cf143
 simp only[go_sem,seval]
 cases h:decide (a.c=b.c)
 ·simp only[go_sem,seval]
  simp[bJ,h]
 ·simp only[go_sem,seval]
  refine aB (c106 h106 _ _ _ _ a.ts.es b.ts.es a.ts.ok) (by simp only[go_sem,seval]) rfl ?_
  simp only[go_sem,seval]
  simp[bJ,h]
theorem c67(hf:pg.fs 67=some cf67)(g:Nat)(hg:∀a b:Lin,Ret pg g [a.av,b.av] (.bool (bJ a b)))(nl cl nl' cl':Bool)(es es':List Lin)(hb:es.length<=big) :
  Ret pg 67 [.sl nl (es.map Lin.av) cl,.sl nl' (es'.map Lin.av) cl',.fn g []] (.bool (eqL bJ es es')):=
 F4 (f:=67) (esz:=2) (ag:=true) rfl hf Lin.av (fun x=>[.int .i64 x.c,x.ts.av bR.av]) (fun _=>rfl) (fun _=>rfl) (fun _=>rfl) rfl (fun x=>by simp only[go_sem,seval]) nl cl nl' cl' es es' hb g bJ (fun x _ y _=>hg x y)
theorem c104(hf:pg.fs 104=some cf104)(h67:pg.fs 67=some cf67)(h142:pg.fs 142=some cf142)(h106:pg.fs 106=some cf106)(a b:bF):Ret pg 104 [a.av,b.av] (.bool (fF a b)):=by
 refine Ret.ofX hf ?_
 unfold cf104
 simp only[go_sem,seval]
 cases h:decide (a.row.bs=b.row.bs)
 ·simp only[go_sem,seval]
  simp[fF,h]
 ·simp only[go_sem,seval]
  refine aB (c67 h67 142 (c142 h142 h106) _ _ _ _ a.dims.es b.dims.es a.dims.ok) (by simp only[go_sem,seval]) rfl ?_
  simp only[go_sem,seval]
  simp[fF,h]
theorem c65(hf:pg.fs 65=some cf65)(h104:∀a b:bF,Ret pg 104 [a.av,b.av] (.bool (fF a b)))(a b:Typ):Ret pg 65 [a.av,b.av] (.bool (gG a b)):=by
 refine Ret.ofX hf ?_
 unfold cf65
 simp only[go_sem,seval]
 cases h:decide (a.elem.bs=b.elem.bs)
 ·simp only[go_sem,seval]
  simp[gG,h]
 ·simp only[go_sem,seval]
  refine aB (h104 a.shape b.shape) (by simp only[go_sem,seval]) rfl ?_
  simp only[go_sem,seval]
  simp[gG,h]
end
end Go.Tev
end
section
namespace Go.Tev
def fB:List UInt8:=[105,110,116]
def jW:List UInt8:=[98,111,111,108]
def sA:List UInt8:=[65]
structure qZ where
 op:List UInt8
 params:List (List UInt8)
 result:List UInt8
def jC:List qZ:=[
 ⟨[97,100,100],[fB,fB],fB⟩,⟨[115,117,98],[fB,fB],fB⟩,⟨[109,117,108],[fB,fB],fB⟩,⟨[100,105,118],[fB,fB],fB⟩,⟨[109,111,100],[fB,fB],fB⟩,
 ⟨[109,105,110],[fB,fB],fB⟩,⟨[109,97,120],[fB,fB],fB⟩,⟨[110,101,103],[fB],fB⟩,⟨[97,98,115],[fB],fB⟩,⟨[115,105,103,110],[fB],fB⟩,
 ⟨[108,116],[fB,fB],jW⟩,⟨[108,101],[fB,fB],jW⟩,⟨[103,116],[fB,fB],jW⟩,⟨[103,101],[fB,fB],jW⟩,⟨[101,113],[sA,sA],jW⟩,⟨[110,101],[sA,sA],jW⟩,
 ⟨[97,110,100],[jW,jW],jW⟩,⟨[111,114],[jW,jW],jW⟩,⟨[120,111,114],[jW,jW],jW⟩,⟨[110,111,116],[jW],jW⟩,
 ⟨[115,101,108,101,99,116],[jW,sA,sA],sA⟩,⟨[116,111,105,110,116],[jW],fB⟩]
def qZ.cells(r:qZ):List AV:=[.str r.op,.sl false (r.params.map .str) true,.str r.result]
def J4:AV:=.agg (jC.flatMap qZ.cells)
def hU(op:List UInt8):Option qZ:=jC.find? fun r=>decide (r.op=op)
section
variable{pg:Pg}
theorem c107(hf:pg.fs 107=some cf107)(nl cl:Bool)(es:List AV)(hel:∀x∈es,El 1 false x)(hb:es.length<=big)(hnl:nl=true->es=[]):bL pg 107 [.sl nl es cl] (lO 1 false es):=by
 refine bL.ofX hf ?_
 unfold cf107
 simp only[go_sem,seval]
 cases nl
 ·simp only[go_sem,seval]
  refine eU (kb:=0) (s:=1) (bytes:=16) (es:=[]) (xs:=es) (Own.nil _ _ _ _ _ _ rfl) (by simp) hel ?_ (by decide) ?_
  ·simp only[List.length_nil,big]at *;omega
  ·intro v' rd pa ho hk hpa
   simp only[go_sem,seval]
   exact ho.conv (by simpa using hel)
 ·simp only[go_sem,seval]
  exact .inl ⟨hnl rfl,true,true,rfl,rfl⟩
theorem c177(hf:pg.fs 177=some cf177):Ret pg 177 [] J4:=
 Ret.closed (.n 177 cf177 .e .e) (by intro f cf h;have:=BT.All.find (p:=fun f cf=>pg.fs f=some cf) (t:=.n 177 cf177 .e .e) ⟨hf,trivial,trivial⟩ h;exact this) 2 (by kernel_rfl)
theorem P7(d:List qZ)(x:qZ)(r:List qZ):fH ((d++x::r).flatMap qZ.cells) (d.length*3) 3 true=some (.agg x.cells):=by
 have hl:∀l:List qZ,(l.flatMap qZ.cells).length=l.length*3:=by
  intro l
  induction l with
  |nil=>rfl
  |cons y s ih=>simp[qZ.cells,ih];omega
 rw[zW,if_pos (by rw[hl];simp;omega)]
 rw[List.flatMap_append,List.drop_append_of_le_length (by rw[hl];omega),List.drop_eq_nil_of_le (by rw[hl];omega),List.nil_append]
 rw[List.flatMap_cons]
 have:x.cells.length=3:=rfl
 rw[<-this,List.take_left]
def iJ(op:List UInt8)(r:AV):Prop:=
 match hU op with
 |none=>r = .tup [.sl true [] true,.str [],.bool false]
 |some p=>∃nl cl,r = .tup [.sl nl (p.params.map .str) cl,.str p.result,.bool true]
theorem c140(hf:pg.fs 140=some cf140)(h177:pg.fs 177=some cf177)(h107:pg.fs 107=some cf107)(op:List UInt8):bL pg 140 [.str op] (iJ op):=by
 refine bL.ofX hf ?_
 unfold cf140
 simp only[go_sem,seval]
 refine aB (c177 h177) (by simp only[go_sem,seval]) rfl ?_
 simp only[go_sem,seval]
 have h22:(22:Int)=jC.length:=rfl
 refine cZ jC (fun d e=>dS e (some 8) (.int .i64 d.length)) (fun d r hp=>hU op=r.find? fun x=>decide (x.op=op)) rfl ?_ ?_ ?_
 ·rfl
 ·intro hp hI
  simp only[cf140L0,cf140M0,<-h22,go_sem,seval]
  simp[iJ,hI]
 ·intro d x r hp hes hI
  have hlt:decide ((d.length:Int)<22)=true:=by rw[h22,hes];exact PL d x r
  have hlt':((d.length:Int)<22)=True:=by simpa using hlt
  have hpa:fH (jC.flatMap qZ.cells) (d.length*3) 3 true=some (.agg x.cells):=by rw[hes];exact P7 d x r
  have hb:(d++x::r).length<=big:=by rw[<-hes];decide
  have hlt'':((d.length:Int)<((22:Nat):Int))=True:=by simpa using hlt
  simp only[cf140L0,cf140M0,J4,hlt,hlt',hlt'',hpa,qZ.cells,go_sem,seval]
  cases hx:decide (x.op=op)
  ·simp only[aM hb,go_sem,seval]
   simpa[List.find?_cons,hx] using hI
  ·simp only[go_sem,seval]
   have hel:∀y∈x.params.map AV.str,El 1 false y:=by
    intro y hy
    simp only[List.mem_map]at hy
    obtain⟨z,_,rfl⟩:=hy
    exact El.str z
   have hI':hU op=some x:=by simpa[List.find?_cons,hx] using hI
   refine HM (c107 h107 false true (x.params.map .str) hel ?_ (by simp)) ?_ hel ?_ ?_
   ·have:∀y∈jC,y.params.length<=big:=by decide
    simpa using this x (by rw[hes];simp)
   ·simp only[treeL,mW,Bool.and_true]
    exact bG (f:=AV.str) (fun _=>rfl) x.params
   ·intro hnil nl cl _
    simp only[go_sem,seval]
    refine And.intro (by kernel_rfl) ?_
    simp only[iJ,hI']
    exact⟨nl,cl,by rw[hnil]⟩
   ·intro cs hcs hch
    simp only[go_sem,seval]
    refine And.intro (by kernel_rfl) ?_
    have htr:treeL (x.params.map AV.str)=true:=bG (f:=AV.str) (fun _=>rfl) x.params
    have hms:∀h,cE (snap 62 h) (x.params.map AV.str)=some (x.params.map AV.str,[]):=fun h=>d6 61 h htr
    have hch':lV 1 false x.params.length cs=some (x.params.map AV.str):=by simpa using hch
    simp only[hms,hch',iJ,hI',conv,depth,eI,cD,bA,go_sem,seval]
    exact⟨false,_,rfl⟩
def lE(n:Int):Bool:=decide (-2147483648<=n)&&decide (n<=2147483647)
def o7(n:Int):Bool:=decide (n=0)||decide (n=1)
theorem PO(hf:pg.fs 148=some cf148)(n:Int):Ret pg 148 [.str [105,110,116],.int .i64 n] (.bool (lE n)):=by
 refine Ret.ofX hf ?_
 unfold cf148
 repeat' (first|simp only[*,go_sem,seval]|refine aK (fun _=>?_) (fun _=>?_)|refine aL (fun _=>?_) (fun _=>?_)|refine And.intro (by kernel_rfl) ?_)
 all_goals simp[lE, *]
theorem VN(hf:pg.fs 148=some cf148)(n:Int):Ret pg 148 [.str [98,111,111,108],.int .i64 n] (.bool (o7 n)):=by
 refine Ret.ofX hf ?_
 unfold cf148
 simp only[go_sem,seval]
 simp only[show decide (([98,111,111,108]:List UInt8)=[105,110,116])=false by decide]
 repeat' (first|simp only[*,go_sem,seval]|refine aK (fun _=>?_) (fun _=>?_)|refine aL (fun _=>?_) (fun _=>?_)|refine And.intro (by kernel_rfl) ?_)
 all_goals simp[o7, *]
def gX(l:List Int)(n:Int):Bool:=l.all fun a=>decide (0<=a)&&decide (a<n)
def gV(s:aI)(n:Int):Bool:=
 if s.op.bs=[99,111,110,115,116] then decide ((s.args.es.length:Int)=0)&&lE s.num
 else if s.op.bs=[116,114,117,116,104] then decide ((s.args.es.length:Int)=0)&&o7 s.num
 else match hU s.op.bs with
  |none=>false
  |some p=>gX s.args.es n&&decide (s.num=0)&&decide ((s.args.es.length:Int)=(p.params.length:Int))
theorem c111(hf:pg.fs 111=some cf111)(h148:pg.fs 148=some cf148)(h140:∀op,bL pg 140 [.str op] (iJ op))(s:aI)(n:Int):Ret pg 111 [s.av,.int .i64 n] (.bool (gV s n)):=by
 refine Ret.ofX hf ?_
 have hb:=s.args.ok
 unfold cf111
 simp only[go_sem,seval]
 cases h1:decide (s.op.bs=[99,111,110,115,116])
 case true=>
  simp only[go_sem,seval]
  cases h2:decide ((s.args.es.length:Int)=0)
  ·simp only[h2,go_sem,seval]
   simp at h1 h2
   simp[gV,h1,h2]
  ·simp only[h2,go_sem,seval]
   refine aB (PO h148 s.num) (by simp only[go_sem,seval]) rfl ?_
   simp only[go_sem,seval]
   simp at h1 h2
   simp[gV,h1,h2]
 simp only[go_sem,seval]
 cases h3:decide (s.op.bs=[116,114,117,116,104])
 case true=>
  simp only[go_sem,seval]
  cases h2:decide ((s.args.es.length:Int)=0)
  ·simp only[h2,go_sem,seval]
   simp at h1 h2 h3
   simp[gV,h1,h2,h3]
  ·simp only[h2,go_sem,seval]
   refine aB (VN h148 s.num) (by simp only[go_sem,seval]) rfl ?_
   simp only[go_sem,seval]
   simp at h1 h2 h3
   simp[gV,h1,h2,h3]
 simp only[go_sem,seval]
 obtain⟨r,hr,hP⟩:=h140 s.op.bs
 have hspec:gV s n=match hU s.op.bs with
  |none=>false
  |some p=>gX s.args.es n&&decide (s.num=0)&&decide ((s.args.es.length:Int)=(p.params.length:Int)):=by
  simp at h1 h3
  simp[gV,h1,h3]
 generalize gV s n=res at hspec ⊢
 obtain⟨nl,cl,ps,rs,ok,rfl,hres⟩:∃nl cl,∃ps:List (List UInt8),∃rs ok,r = .tup [.sl nl (ps.map .str) cl,.str rs,.bool ok]/\res=(ok&&gX s.args.es n&&decide (s.num=0)&&decide ((s.args.es.length:Int)=(ps.length:Int))):=by
  unfold iJ at hP
  cases hp:hU s.op.bs with
  |none=>
   rw[hp]at hP hspec
   exact⟨_,_,[],_,_,hP,by simp[hspec]⟩
  |some p=>
   rw[hp]at hP hspec
   obtain⟨nl,cl,hP⟩:=hP
   exact⟨_,_,p.params,_,_,hP,by simp[hspec]⟩
 refine aB hr (by simp only[go_sem,seval]) rfl ?_
 simp only[go_sem,seval]
 refine cZ s.args.es (fun d e=>dS (dS e (some 44) (.int .i64 d.length)) (some 7) (.bool (ok&&gX d n))) (fun d r hp=>(∃fz,hp.get 1=some (0,.blk [.str s.op.bs,.int .i64 s.num,.sl s.args.nl (s.args.es.map aH) s.args.cl] 3 true true fz)))
  (by have h0:(ok&&gX [] n)=ok:=by simp[gX]
      rw[h0];rfl) ?_ ?_ ?_
 ·exact⟨_,rfl⟩
 ·rintro hp ⟨fz,h1⟩
  simp only[cf111L0,cf111M0,go_sem,seval]
  cases h4:ok&&gX s.args.es n
  ·simp only[h4,h1,go_sem,seval]
   simp[hres,h4]
  cases h5:decide (s.num=0)
  ·simp only[h1,h5,go_sem,seval]
   simp[hres,h4,h5]
  simp only[h1,h5,go_sem,seval]
  simp[hres,h4,h5]
 ·rintro d x r hp hes ⟨fz,h1⟩
  rw[hes]at hb h1 ⊢
  have hx:(ok&&gX (d++[x]) n)=((ok&&gX d n)&&(decide (0<=x)&&decide (x<n))):=by simp[gX,Bool.and_assoc]
  rw[hx]
  cases hA:(ok&&gX d n)<;>cases hB:decide (0<=x)<;>cases hC:decide (x<n)
  all_goals simp only[cf111L0,cf111M0,hA,hB,hC,aM hb,go_sem,seval]
  all_goals exact⟨fz,h1⟩
end
end Go.Tev
end
section
namespace Go.Tev
structure JP(pg:Pg):Prop where
 name:∀s:Str,Ret pg 57 [.str s.bs] (.bool (fJ s.bs))
 trim:∀s:List UInt8,s.length<=big->∃t,Ret pg 94 [.str s,.str [48,49,50,51,52,53,54,55,56,57]] (.str t)/\decide (t=[])=s.all aV
 loop:∀i:Nat,i<10->Ret pg 108 [.int .i64 i] (.str (p9 i))
def wB(s:List UInt8):Bool:=
 match s with
 | c::d::t=>(decide ((c.toNat:Int)=105)||decide ((c.toNat:Int)=106))&&(d::t).all aV
 |_=>false
def lC(s:bF):Bool:=(decide (s.row.bs=[])||fJ s.row.bs)&&decide ((s.dims.es.length:Int)<=6)&&s.dims.es.all d9
def pB(t:Typ):Bool:=(decide (t.elem.bs=[105,110,116])||decide (t.elem.bs=[98,111,111,108])||fD t.elem.bs)&&lC t.shape
def eX(t:Typ)(vars:List Str):Bool:=pB t && !fD t.elem.bs&&decide (t.shape.row.bs=[])&&bZ t.shape.dims.es vars
def kP(p:List Str):List Str->Bool
 |[]=>true
 |x::r=>fJ x.bs && !wB x.bs&&(match p.getLast? with|none=>true|some q=>Op.bytesLess q.bs x.bs)&&kP (p++[x]) r
section
variable{pg:Pg}
theorem c101(B:JP pg)(hf:pg.fs 101=some cf101)(s:Str):Ret pg 101 [.str s.bs] (.bool (fD s.bs)):=by
 obtain⟨s,hb⟩:=s
 refine Ret.ofX hf ?_
 unfold cf101
 cases s with
 |nil=>
  repeat' (first|simp only[*,go_sem,seval]|refine aK (fun _=>?_) (fun _=>?_)|refine aL (fun _=>?_) (fun _=>?_)|refine And.intro (by kernel_rfl) ?_)
  all_goals simp_all [fD]
 |cons c t=>
  obtain⟨u,hu,hd⟩:=B.trim t (by simp[big]at hb ⊢;omega)
  have hl:¬((↑(t.length+1):Int)<1):=by omega
  repeat' (first|simp only[*,go_sem,seval]|refine aK (fun _=>?_) (fun _=>?_)|refine aL (fun _=>?_) (fun _=>?_)|(refine aB hu (by simp only[go_sem,seval]) rfl ?_)|refine And.intro (by kernel_rfl) ?_)
  all_goals (simp_all [fD])
  all_goals (try omega)
theorem c58(B:JP pg)(hf:pg.fs 58=some cf58)(s:Str):Ret pg 58 [.str s.bs] (.bool (wB s.bs)):=by
 obtain⟨s,hb⟩:=s
 refine Ret.ofX hf ?_
 unfold cf58
 match s,hb with
 |[],hb=>
  repeat' (first|simp only[*,go_sem,seval]|refine aK (fun _=>?_) (fun _=>?_)|refine aL (fun _=>?_) (fun _=>?_)|refine And.intro (by kernel_rfl) ?_)
  all_goals simp_all [wB]
 |[c],hb=>
  repeat' (first|simp only[*,go_sem,seval]|refine aK (fun _=>?_) (fun _=>?_)|refine aL (fun _=>?_) (fun _=>?_)|refine And.intro (by kernel_rfl) ?_)
  all_goals simp_all [wB]
 |c::d::t,hb=>
  obtain⟨u,hu,hd⟩:=B.trim (d::t) (by simp[big]at hb ⊢;omega)
  have hl:decide ((1:Int) < ↑(t.length+1+1))=true:=by simp;omega
  repeat' (first|simp only[*,go_sem,seval]|refine aK (fun _=>?_) (fun _=>?_)|refine aL (fun _=>?_) (fun _=>?_)|(refine aB hu (by simp only[go_sem,seval]) rfl ?_)|refine And.intro (by kernel_rfl) ?_)
  all_goals (simp_all [wB])
  all_goals (try omega)
theorem c176(hf:pg.fs 176=some cf176)(h51:∀l:Lin,Ret pg 51 [l.av] (.bool (d9 l)))(l:Lin):Ret pg 176 [l.av] (.bool (!d9 l)):=by
 refine Ret.ofX hf ?_
 unfold cf176
 repeat' (first|simp only[*,go_sem,seval]|refine aK (fun _=>?_) (fun _=>?_)|refine aL (fun _=>?_) (fun _=>?_)|(refine aB (h51 l) (by simp only[go_sem,seval]) rfl ?_)|refine And.intro (by kernel_rfl) ?_)
theorem c205(hf:pg.fs 205=some cf205)(nl cl:Bool)(es:List Lin)(hb:es.length<=big)(g:Nat)(cs:List AV)(hcs:treeL cs=true)(p:Lin->Bool)(hp:∀x∈es,Ret pg g (x.av::cs) (.bool (p x))) :
  bL pg 205 [.sl nl (es.map Lin.av) cl,.fn g cs] (fun r=>∃i:Int,r = .int .i64 i/\decide (0<=i)=es.any p):=
 s8 (f:=205) (esz:=2) (ag:=true) hf Lin.av (fun _=>by simp only[go_sem,seval]) (fun _=>by simp only[go_sem,seval]) nl cl es hb g cs hcs p hp
theorem c175(hf:pg.fs 175=some cf175)(h205:pg.fs 205=some cf205)(nl cl:Bool)(es:List Lin)(hb:es.length<=big)(g:Nat)(cs:List AV)(hcs:treeL cs=true)(p:Lin->Bool)(hp:∀x∈es,Ret pg g (x.av::cs) (.bool (p x))) :
  Ret pg 175 [.sl nl (es.map Lin.av) cl,.fn g cs] (.bool (es.any p)):=
 nI (n:=205) hf (by simp only[treeL,mW,qM,hcs,Lin.treeL_av,Bool.and_true]) (c205 h205 nl cl es hb g cs hcs p hp)
theorem c139(B:JP pg)(hf:pg.fs 139=some cf139)(h175:pg.fs 175=some cf175)(h205:pg.fs 205=some cf205)(h176:pg.fs 176=some cf176)(h51:∀l:Lin,Ret pg 51 [l.av] (.bool (d9 l)))(s:bF) :
  Ret pg 139 [s.av] (.bool (lC s)):=by
 refine Ret.ofX hf ?_
 have hc:=c175 h175 h205 s.dims.nl s.dims.cl s.dims.es s.dims.ok 176 [] rfl (fun l => !d9 l) (fun l _=>c176 h176 h51 l)
 unfold cf139
 repeat' (first|simp only[*,go_sem,seval]|refine aK (fun _=>?_) (fun _=>?_)|refine aL (fun _=>?_) (fun _=>?_)|(refine aB (B.name s.row) (by simp only[go_sem,seval]) rfl ?_)|(refine aB hc (by simp only[go_sem,seval]) rfl ?_)|refine And.intro (by kernel_rfl) ?_)
 all_goals (have hany:(s.dims.es.any fun l => !d9 l) = !(s.dims.es.all d9):=by rw[List.not_all_eq_any_not])
 all_goals (simp_all [lC])
 all_goals (intro h;exfalso;omega)
theorem c100(hf:pg.fs 100=some cf100)(h101:∀s:Str,Ret pg 101 [.str s.bs] (.bool (fD s.bs)))(h139:∀s:bF,Ret pg 139 [s.av] (.bool (lC s)))(t:Typ):Ret pg 100 [t.av] (.bool (pB t)):=by
 refine Ret.ofX hf ?_
 unfold cf100
 repeat' (first|simp only[*,go_sem,seval]|refine aK (fun _=>?_) (fun _=>?_)|refine aL (fun _=>?_) (fun _=>?_)|(refine aB (h101 t.elem) (by simp only[go_sem,seval]) rfl ?_)|(refine aB (h139 t.shape) (by simp only[go_sem,seval]) rfl ?_)|refine And.intro (by kernel_rfl) ?_)
 all_goals (simp_all [pB])
theorem c62(hf:pg.fs 62=some cf62)(h100:∀t:Typ,Ret pg 100 [t.av] (.bool (pB t)))(h101:∀s:Str,Ret pg 101 [.str s.bs] (.bool (fD s.bs)))
  (h59:∀(nl cl:Bool)(ls:List Lin),ls.length<=big->∀(nl' cl':Bool)(vars:List Str),vars.length<=big->Ret pg 59 [.sl nl (ls.map Lin.av) cl,.sl nl' (vars.map Str.av) cl'] (.bool (bZ ls vars)))
  (t:Typ) (nl cl:Bool) (vars:List Str) (hb:vars.length<=big):Ret pg 62 [t.av,.sl nl (vars.map Str.av) cl] (.bool (eX t vars)):=by
 refine Ret.ofX hf ?_
 unfold cf62
 repeat' (first|simp only[*,go_sem,seval]|refine aK (fun _=>?_) (fun _=>?_)|refine aL (fun _=>?_) (fun _=>?_)|(refine aB (h100 t) (by simp only[go_sem,seval]) rfl ?_)|(refine aB (h101 t.elem) (by simp only[go_sem,seval]) rfl ?_)|(refine aB (h59 _ _ t.shape.dims.es t.shape.dims.ok nl cl vars hb) (by simp only[go_sem,seval]) rfl ?_)|refine And.intro (by kernel_rfl) ?_)
 all_goals (simp_all [eX])
theorem c61(hf:pg.fs 61=some cf61)(h62:∀(t:Typ) (nl cl:Bool) (vars:List Str),vars.length<=big->Ret pg 62 [t.av,.sl nl (vars.map Str.av) cl] (.bool (eX t vars)))(t:Typ)(k:aA) :
  Ret pg 61 [t.av,.fp k.av] (.bool (!eX t k.vars.es)):=by
 refine Ret.ofX hf ?_
 unfold cf61
 repeat' (first|simp only[*,go_sem,seval]|refine aK (fun _=>?_) (fun _=>?_)|refine aL (fun _=>?_) (fun _=>?_)|(refine aB (h62 t _ _ k.vars.es k.vars.ok) (by simp only[go_sem,seval]) rfl ?_)|refine And.intro (by kernel_rfl) ?_)
theorem c99(hf:pg.fs 99=some cf99)(nl cl:Bool)(es:List Typ)(hb:es.length<=big)(g:Nat)(cs:List AV)(hcs:treeL cs=true)(p:Typ->Bool)(hp:∀x∈es,Ret pg g (x.av::cs) (.bool (p x))) :
  bL pg 99 [.sl nl (es.map Typ.av) cl,.fn g cs] (fun r=>∃i:Int,r = .int .i64 i/\decide (0<=i)=es.any p):=
 s8 (f:=99) (esz:=3) (ag:=true) hf Typ.av (fun _=>by simp only[go_sem,seval]) (fun _=>by simp only[go_sem,seval]) nl cl es hb g cs hcs p hp
theorem c60(hf:pg.fs 60=some cf60)(h99:pg.fs 99=some cf99)(nl cl:Bool)(es:List Typ)(hb:es.length<=big)(g:Nat)(cs:List AV)(hcs:treeL cs=true)(p:Typ->Bool)(hp:∀x∈es,Ret pg g (x.av::cs) (.bool (p x))) :
  Ret pg 60 [.sl nl (es.map Typ.av) cl,.fn g cs] (.bool (es.any p)):=
 nI (n:=99) hf (by simp only[treeL,mW,qM,hcs,Typ.treeL_av,Bool.and_true]) (c99 h99 nl cl es hb g cs hcs p hp)
def bD(k:aA):Bool:=
 kP [] k.vars.es&&(decide ((k.vars.es.length:Int)<=12)&&bZ k.wher.es k.vars.es&&decide (0<=k.inputs)&&decide (k.inputs<=8)&&decide (k.inputs<=k.values.es.length)&&decide ((k.values.es.length:Int)<=k.inputs+400) &&
  decide ((k.list.es.length:Int)<=400)&&k.values.es.all fun t=>eX t k.vars.es)
theorem c43(B:JP pg)(hf:pg.fs 43=some cf43)(h58:∀s:Str,Ret pg 58 [.str s.bs] (.bool (wB s.bs)))
  (h59:∀(nl cl:Bool)(ls:List Lin),ls.length<=big->∀(nl' cl':Bool)(vars:List Str),vars.length<=big->Ret pg 59 [.sl nl (ls.map Lin.av) cl,.sl nl' (vars.map Str.av) cl'] (.bool (bZ ls vars)))
  (h60:pg.fs 60=some cf60) (h99:pg.fs 99=some cf99) (h61:∀(t:Typ)(k:aA),Ret pg 61 [t.av,.fp k.av] (.bool (!eX t k.vars.es))) (k:aA):Ret pg 43 [k.av] (.bool (bD k)):=by
 have hb:=k.vars.ok
 have hbl:=k.values.ok
 have hall:=c60 h60 h99 k.values.nl k.values.cl k.values.es k.values.ok 61 [.fp k.av] (by simp only[go_sem,seval]) (fun t => !eX t k.vars.es) (fun t _=>h61 t k)
 have hov:=h59 k.wher.nl k.wher.cl k.wher.es k.wher.ok k.vars.nl k.vars.cl k.vars.es k.vars.ok
 refine Ret.ofX hf ?_
 unfold cf43
 simp only[go_sem,seval]
 refine cZ k.vars.es (fun d e=>dS e (some 8) (.int .i64 d.length)) (fun d r hp=>(hp.get 1=some (0,.blk k.cells 6 true true false))/\kP [] k.vars.es=kP d r) rfl ?_ ?_ ?_
 ·exact⟨rfl,rfl⟩
 ·rintro hp ⟨h1,hI⟩
  simp only[kP]at hI
  simp only[aA.cells,Sl.av]at h1
  have hinp:decide (8<k.inputs)=false->decide (k.inputs<0)=false->wr .i64 (k.inputs+400)=k.inputs+400:=by
   intro a b
   simp at a b
   exact aR (by omega) (by omega)
  have hany:(k.values.es.any fun t => !eX t k.vars.es) = !(k.values.es.all fun t=>eX t k.vars.es):=by rw[List.not_all_eq_any_not]
  have hov':=hov
  simp only[cf43L0,cf43M0]
  clear h59 h60 h99 h61 h58
  repeat' (first|simp only[*,go_sem,seval]|refine aK (fun _=>?_) (fun _=>?_)|refine aL (fun _=>?_) (fun _=>?_)|(refine aB hov' (by simp only[go_sem,seval]) rfl ?_)|(refine bT (hall) (by simp only[ h1,depth,cD,bA,eI,go_sem,seval];rfl) (by first|rfl|simp only[fG]) ?_)|refine And.intro (by kernel_rfl) ?_)
  all_goals (clear hall hov hov' hf B)
  all_goals (simp only[decide_eq_true_eq,decide_eq_false_iff_not]at *)
  all_goals (clear h1 hp hb hbl)
  all_goals (try rw[hany])
  all_goals (clear hany hinp)
  all_goals (simp only[bD,hI,Bool.true_and])
  all_goals (simp_all)
  all_goals (try omega)
 ·rintro d x r hp hes ⟨h1,hI⟩
  have h0:=h1
  rw[hes]at hb hI
  rw[hes]
  simp only[kP]at hI
  simp only[aA.cells,Sl.av]at h1
  rw[hes]at h1
  simp only[cf43L0,cf43M0,h1,go_sem,seval]
  refine aB (B.name x) (by simp only[go_sem,seval]) rfl ?_
  simp only[go_sem,seval]
  cases hn:fJ x.bs
  ·simp only[go_sem,seval]
   simp[bD,hes,hI,hn]
  simp only[go_sem,seval]
  refine aB (h58 x) (by simp only[go_sem,seval]) rfl ?_
  simp only[go_sem,seval]
  cases hr:wB x.bs
  case true=>
   simp only[go_sem,seval]
   simp[bD,hes,hI,hr]
  simp only[go_sem,seval]
  cases hd:decide (0<(d.length:Int))
  ·simp only[hd,aM hb,go_sem,seval]
   have:d=[]:=by cases d<;>simp_all<;>omega
   subst this
   exact⟨h0,by simpa[hn,hr] using hI⟩
  ·obtain⟨d',y,rfl⟩:∃d' y,d=d'++[y]:=by
    rcases List.eq_nil_or_concat d with rfl|⟨d',y,h⟩
    ·simp at hd
    ·exact⟨d',y,by simpa using h⟩
   have hw:wr .i64 (((d'++[y]).length:Int)-1)=(d'.length:Int):=by
    simp only[List.length_append,List.length_cons,List.length_nil,big]at *
    rw[aR (by omega) (by omega)];omega
   have hy:(d'++[y]++x::r)[d'.length]?=some y:=by simp
   simp only[hd,h1,hw,hy,go_sem,seval]
   cases hl:Op.bytesLess y.bs x.bs
   ·simp only[go_sem,seval]
    have:kP [] k.vars.es=false:=by rw[hes,hI];simp[hl]
    simp[bD,this]
   ·simp only[aM hb,go_sem,seval]
    exact⟨h0,by simpa[hn,hr,hl] using hI⟩
end
end Go.Tev
end
section
namespace Go.Tev
def eL(n:Int):List aI->Bool
 |[]=>true
 |s::r=>gV s n&&eL (n+1) r
def cM(fn:List aI)(n:Int):Bool:=decide (0<=n)&&decide (n<=20)&&decide ((fn.length:Int)<=60) && !decide (n+fn.length=0)&&eL n fn
def d7(p:aC)(a b c d e f:Bool):Bool:=
 (a||decide (p.num=0))&&(b||decide (p.value=0))&&(c||decide (p.name.bs=[]))&&(d||decide ((p.at_.es.length:Int)=0))&&(e || !p.dyn&&decide (p.check=0))&&(f||decide ((p.fn.es.length:Int)=0))
def rT(p:aC)(values:Int):Bool:=
 d7 p false true false true true false&&decide (0<=p.value)&&decide (p.value<values)&&decide (0<=p.check) &&
  (if p.dyn then decide ((p.at_.es.length:Int)<=5)&&decide ((p.kids.length:Int)=1) else decide ((p.at_.es.length:Int)<=6)&&decide ((p.kids.length:Int)=0)&&decide (p.check=0))
section
variable{pg:Pg}
theorem c70(hf:pg.fs 70=some cf70)(h111:∀(s:aI) (n:Int),Ret pg 111 [s.av,.int .i64 n] (.bool (gV s n)))(nl cl:Bool)(fn:List aI)(hb:fn.length<=big)(n:Int) :
  Ret pg 70 [.sl nl (fn.map aI.av) cl,.int .i64 n] (.bool (cM fn n)):=by
 refine Ret.ofX hf ?_
 unfold cf70
 simp only[go_sem,seval]
 cases h1:decide (n<0)
 case true=>
  simp only[h1,go_sem,seval]
  simp at h1
  have:decide (0<=n)=false:=by simp;omega
  simp[cM,this]
 simp only[h1,go_sem,seval]
 cases h2:decide (20<n)
 case true=>
  simp only[h2,go_sem,seval]
  simp at h2
  have:decide (n<=20)=false:=by simp;omega
  simp[cM,this]
 simp only[h2,go_sem,seval]
 cases h3:decide (60<(fn.length:Int))
 case true=>
  simp only[h3,go_sem,seval]
  simp at h3
  have:decide ((fn.length:Int)<=60)=false:=by simp;omega
  simp[cM,this]
 simp only[decide_eq_false_iff_not]at h1 h2
 have hw:wr .i64 (n+fn.length)=n+fn.length:=by simp only[big]at hb;exact aR (by omega) (by omega)
 simp only[h3,hw,go_sem,seval]
 cases h4:decide (n+(fn.length:Int)=0)
 case true=>
  simp only[h4,go_sem,seval]
  simp[cM,h4]
 simp only[h4,go_sem,seval]
 have hspec:cM fn n=eL n fn:=by
  simp only[decide_eq_false_iff_not]at h3
  have e1:decide (0<=n)=true:=by simp;omega
  have e2:decide (n<=20)=true:=by simp;omega
  have e3:decide ((fn.length:Int)<=60)=true:=by simp;omega
  simp[cM,h4,e1,e2,e3]
 rw[hspec]
 refine cZ fn (fun d e=>dS e (some 27) (.int .i64 d.length)) (fun d r hp=>eL n fn=eL (n+d.length) r) rfl ?_ ?_ ?_
 ·simp
 ·intro hp hI
  simp only[cf70L0,cf70M0,go_sem,seval]
  rw[hI];rfl
 ·intro d x r hp hes hI
  subst hes
  have hw:wr .i64 (n+d.length)=n+d.length:=by
   simp only[big,List.length_append,List.length_cons]at hb;exact aR (by omega) (by omega)
  simp only[cf70L0,cf70M0,go_sem,seval]
  rw[hw]
  refine aB (h111 x _) (by simp only[go_sem,seval]) rfl ?_
  simp only[go_sem,seval]
  cases hx:gV x (n+d.length)
  ·simp only[go_sem,seval]
   rw[hI];simp[eL,hx]
  ·simp only[aM hb,go_sem,seval]
   rw[hI];simp[eL,hx,Int.add_assoc]
theorem JE(hf:pg.fs 206=some cf206)(p:aC):Ret pg 206 [p.av,.bool false,.bool true,.bool false,.bool true,.bool true,.bool false] (.bool (d7 p false true false true true false)):=by
 refine Ret.ofX hf ?_
 unfold cf206
 repeat' (first|simp only[*,go_sem,seval]|refine aK (fun _=>?_) (fun _=>?_)|refine aL (fun _=>?_) (fun _=>?_)|refine And.intro (by kernel_rfl) ?_)
 all_goals (simp_all [d7])
theorem GK(hf:pg.fs 206=some cf206)(p:aC):Ret pg 206 [p.av,.bool true,.bool false,.bool false,.bool false,.bool false,.bool false] (.bool (d7 p true false false false false false)):=by
 refine Ret.ofX hf ?_
 unfold cf206
 repeat' (first|simp only[*,go_sem,seval]|refine aK (fun _=>?_) (fun _=>?_)|refine aL (fun _=>?_) (fun _=>?_)|refine And.intro (by kernel_rfl) ?_)
 all_goals (simp_all [d7])
theorem MU(hf:pg.fs 206=some cf206)(p:aC):Ret pg 206 [p.av,.bool false,.bool false,.bool false,.bool true,.bool false,.bool false] (.bool (d7 p false false false true false false)):=by
 refine Ret.ofX hf ?_
 unfold cf206
 repeat' (first|simp only[*,go_sem,seval]|refine aK (fun _=>?_) (fun _=>?_)|refine aL (fun _=>?_) (fun _=>?_)|refine And.intro (by kernel_rfl) ?_)
 all_goals (simp_all [d7])
theorem MT(hf:pg.fs 206=some cf206)(p:aC):Ret pg 206 [p.av,.bool false,.bool false,.bool true,.bool true,.bool false,.bool true] (.bool (d7 p false false true true false true)):=by
 refine Ret.ofX hf ?_
 unfold cf206
 repeat' (first|simp only[*,go_sem,seval]|refine aK (fun _=>?_) (fun _=>?_)|refine aL (fun _=>?_) (fun _=>?_)|refine And.intro (by kernel_rfl) ?_)
 all_goals (simp_all [d7])
theorem JF(hf:pg.fs 206=some cf206)(p:aC):Ret pg 206 [p.av,.bool false,.bool false,.bool false,.bool false,.bool false,.bool true] (.bool (d7 p false false false false false true)):=by
 refine Ret.ofX hf ?_
 unfold cf206
 repeat' (first|simp only[*,go_sem,seval]|refine aK (fun _=>?_) (fun _=>?_)|refine aL (fun _=>?_) (fun _=>?_)|refine And.intro (by kernel_rfl) ?_)
 all_goals (simp_all [d7])
theorem OQ(hf:pg.fs 206=some cf206)(p:aC):Ret pg 206 [p.av,.bool false,.bool false,.bool false,.bool false,.bool false,.bool false] (.bool (d7 p false false false false false false)):=by
 refine Ret.ofX hf ?_
 unfold cf206
 repeat' (first|simp only[*,go_sem,seval]|refine aK (fun _=>?_) (fun _=>?_)|refine aL (fun _=>?_) (fun _=>?_)|refine And.intro (by kernel_rfl) ?_)
 all_goals (simp_all [d7])
theorem c207(hf:pg.fs 207=some cf207)(h206:pg.fs 206=some cf206)(p:aC)(hp:p.kids.length<=big)(v:Int) :
  Ret pg 207 [p.av,.int .i64 v] (.bool (rT p v)):=by
 have h6:=JE h206 p
 rw[aC.avc]at h6
 refine Ret.ofX hf ?_
 unfold cf207
 clear h206
 repeat' (first|simp only[*,go_sem,seval]|refine aK (fun _=>?_) (fun _=>?_)|refine aL (fun _=>?_) (fun _=>?_)|(refine aB h6 (by simp only[go_sem,seval]) rfl ?_)|refine And.intro (by kernel_rfl) ?_)
 all_goals (clear h6)
 all_goals (simp_all [rT])
 all_goals (try omega)
end
end Go.Tev
end
section
namespace Go.Tev
mutual
theorem aC.ind'{P:aC->Prop}(h:∀p:aC,(∀q∈p.kids,P q)->P p):∀p,P p
 |.mk op num value name at_ dyn check fn knl kids kcl=>h _ (aC.inds h kids)
theorem aC.inds{P:aC->Prop}(h:∀p:aC,(∀q∈p.kids,P q)->P p):∀l:List aC,∀q∈l,P q
 |[]=>by simp
 |x::r=>List.forall_mem_cons.2 ⟨aC.ind' h x,aC.inds h r⟩
end
mutual
def oQ:aC->Int
 |.mk _ _ _ _ _ _ _ _ _ kids _=>mE 1 kids
def mE(a:Int):List aC->Int
 |[]=>a
 |p::r=>mE (wr .i64 (a+oQ p)) r
end
theorem zZ(p:aC):oQ p=mE 1 p.kids:=by cases p;rw[oQ];rfl
theorem pY:∀(d:List aC)(a:Int)(x:aC),mE a (d++[x])=wr .i64 (mE a d+oQ x)
 |[],a,x=>by simp[mE]
 |y::d,a,x=>by simp only[List.cons_append,mE];exact pY d _ x
section
variable{pg:Pg}
theorem c146(hf:pg.fs 146=some cf146):∀p:aC,p.ok->Ret pg 146 [p.av] (.int .i64 (oQ p)):=by
 refine aC.ind' fun p ih hp=>?_
 obtain⟨hb,hk⟩:=(aC.ok_iff p).1 hp
 refine Ret.ofX hf ?_
 unfold cf146
 simp only[go_sem,seval]
 refine cZ p.kids (fun d e=>dS (dS e (some 9) (.int .i64 d.length)) (some 3) (.int .i64 (mE 1 d))) (fun d r hp=>True) (by simp only[mE];rfl) trivial ?_ ?_
 ·rintro hp -
  simp only[cf146L0,cf146M0,go_sem,seval]
  exact(zZ p).symm
 ·rintro d x r hp hes -
  have hx:=ih x (by rw[hes];simp) (hk x (by rw[hes];simp))
  rw[hes]at hb
  rw[hes]
  rw[aC.avc]at hx
  simp only[cf146L0,cf146M0,go_sem,seval]
  refine aB (hx) (by simp only[go_sem,seval]) rfl ?_
  simp only[aM hb,pY,go_sem,seval]
theorem c209(hf:pg.fs 209=some cf209)(n:Nat)(h0:0<n)(hb:n<=1073741824):bL pg 209 [.sl true [] true,.int .i64 n] (lO 1 false []):=by
 refine bL.ofX hf ?_
 have e1:decide ((n:Int)<0)=false:=by simp
 have e2:decide ((0:Int)<n)=true:=by simp;omega
 have e3:wr .i64 (n:Int)=n:=aR (by omega) (by omega)
 have e4:wr .i64 (0:Int)=0:=rfl
 unfold cf209
 simp only[e1,gM,gW,Int.sub_zero,Int.sub_self,e3,e4,e2,Option.getD_none,go_sem,seval]
 have hz:XO pg 0 (.apz 1 false 16 [.str []]) 1 [] [.sl true [] true,.int .i64 (n:Int)]=fun Q _=>Q (.rf 1 0 0 n n) (.pat [1] [⟨1,0,.blk (List.replicate n [.str []]).flatten 1 false false false⟩]):=by
  funext Q t
  have hn:n≠0:=by omega
  show WO pg 0 _ 1 [] _ Q=_
  rw[dH rfl]
  have ha:bQ [AV.str []]=true:=rfl
  have hb':(n:Int)<=1073741824:=by omega
  simp[FE,PM,hb,hb',ha,kJ,hn,FA,bB,Hp.next,G8]
 rw[hz]
 simp only[gM,gW,Option.getD_none,Option.getD_some,go_sem,seval]
 simp only[XV,FA,Option.getD_none,Option.getD_some,Option.isNone_none,Bool.or_true,Int.toNat_zero,Nat.sub_zero]
 rw[if_pos (by simp)]
 simp only[go_sem,seval]
 simp only[lV,List.drop_zero,conv,depth,eI,cD,bA,go_sem,seval]
 exact⟨_,by simp,.inr rfl⟩
theorem El.strs(l:List Str):∀x∈l.map Str.av,El 1 false x:=by
 intro x hx
 simp only[List.mem_map]at hx
 obtain⟨y,_,rfl⟩:=hx
 exact⟨rfl,rfl,rfl⟩
theorem c184(hf:pg.fs 184=some cf184)(h209:pg.fs 209=some cf209)(nl cl:Bool)(vars:List Str)(s:Str)(hb:vars.length<=big) :
  bL pg 184 [.sl false [.sl nl (vars.map Str.av) cl,.sl false [.str s.bs] true] true] (lO 1 false ((vars++[s]).map Str.av)):=by
 refine bL.ofX hf ?_
 simp only[big]at hb
 have e1:wr .i64 (vars.length:Int)=vars.length:=aR (by omega) (by omega)
 have e2:wr .i64 ((vars.length:Int)+1)=((vars.length+1:Nat):Int):=by rw[aR (by omega) (by omega)];omega
 have e3:decide ((vars.length:Int)<0)=false:=by simp
 have e4:decide ((((vars.length+1:Nat):Int))<0)=false:=by simp;omega
 have e5:wr .i64 1=1:=rfl
 have e6:wr .i64 2=2:=rfl
 have e7:((1:Int).toNat)=1:=rfl
 have e8:(((2:Nat):Int))=2:=rfl
 have e13:(((1:Nat):Int))=1:=rfl
 have e9:decide ((0:Int)<2)=true:=rfl
 have e10:decide ((1:Int)<2)=true:=rfl
 have e11:decide ((2:Int)<2)=false:=rfl
 have e12:((0:Int)<=1)=True:=by simp
 unfold cf184
 simp only[go_sem,seval]
 rw[l7]
 simp only[cf184L0,cf184M0,e1,e3,Int.zero_add,e5,e8,e9,go_sem,seval]
 rw[l7]
 simp only[cf184L0,cf184M0,e13,e2,e4,e5,e6,e7,e8,e10,e12,Int.reduceAdd,go_sem,seval]
 rw[l7]
 simp only[cf184L0,cf184M0,e8,e11,go_sem,seval]
 refine u4 (c209 h209 (vars.length+1) (by omega) (by omega)) (by simp only[go_sem,seval]) (by simp) ?_
 intro v rd pa ho hk hpa
 simp only[go_sem,seval]
 rw[l7]
 simp only[cf184L1,cf184M1,e8,e9,go_sem,seval]
 have hcat:∀v':AV,∀hp:Hp,Own hp 5 1 false v' (vars.map Str.av++[.str s.bs])->∃r,conv hp v'=some r/\lO 1 false ((vars++[s]).map Str.av) r:=by
  intro v' hp ho'
  have:=ho'.conv (by have:=El.strs (vars++[s]);simpa[Str.av] using this)
  simpa[Str.av] using this
 have hfin:∀(v':AV)(hp:Hp),(Own hp 1 1 false v' (vars.map Str.av)/\vars=[])\/Own hp 5 1 false v' (vars.map Str.av) ->
   ∀(Q:AV->Eff->Prop)(t:Tok Q),(∀v2 rd pa,Own (Eff.app hp (.pat rd pa)) 5 1 false v2 (vars.map Str.av++[.str s.bs])->Q v2 (.pat rd pa))->XO pg 0 (.app 1 false 16) 5 hp [v',.sl false [.str s.bs] true] Q t:=by
  intro v' hp hor Q t hq
  have hs:∀x∈[AV.str s.bs],El 1 false x:=by intro x hx;simp at hx;subst hx;exact⟨rfl,rfl,rfl⟩
  rcases hor with ⟨ho',hv⟩|ho'
  ·exact CB (kb:=0) (s:=5) ho' (by decide) (El.strs vars) hs (by simp;omega) (by omega) (fun h=>by simp at h) (fun _ v2 rd pa h _=>hq v2 rd pa h)
  ·exact eU (kb:=0) (s:=5) ho' (El.strs vars) hs (by simp;omega) (by omega) (fun v2 rd pa h _ _=>hq v2 rd pa h)
 have hrest:∀(v':AV)(hp:Hp),(Own hp 1 1 false v' (vars.map Str.av)/\vars=[])\/Own hp 5 1 false v' (vars.map Str.av)->∀env:List AV,
   clear cf184M1 env=cf184E1 v' (.sl false [.sl nl (vars.map Str.av) cl,.sl false [.str s.bs] true] true) (.int .i64 2) (.int .i64 1) ->
   XX pg 0 (.loop cf184L1 cf184M1) ⟨env,hp⟩ (mR 2 (lG (fun st'=>XX pg 0 ((C.reg [⟨some 35,.mov,[.t 6],none,0,0⟩,⟨some 2,.mov,[.t 35],none,0,0⟩] false).seq C.ret) st' (MA [Sum.inl 2] (lO 1 false ((vars++[s]).map Str.av))) ⟨⟩) (MA [Sum.inl 2] (lO 1 false ((vars++[s]).map Str.av))))) ⟨⟩:=by
  intro v' hp hor env henv
  rw[l7,henv]
  simp only[cf184L1,cf184E1,e8,e10,e7,e12,go_sem,seval]
  refine hfin v' hp hor _ _ ?_
  intro v2 rd pa ho2
  simp only[e6,e5,go_sem,seval]
  rw[l7]
  simp only[cf184L1,cf184M1,e8,e11,Int.reduceAdd,e6,go_sem,seval]
  exact hcat _ _ ho2
 refine CB (kb:=0) (s:=5) (k1:=1) ho (by decide) (by simp) (El.strs vars) (by simp;omega) (by omega) ?_ ?_
 ·intro hx rd
  have hv:vars=[]:=by simpa using hx
  simp only[e5,go_sem,seval]
  exact hrest v _ (.inl ⟨by rw[hv];exact ho,hv⟩) _ rfl
 ·intro _ v' rd' pa' ho' _
  simp only[e5,go_sem,seval]
  exact hrest v' _ (.inr (by simpa using ho')) _ rfl
end
end Go.Tev
end
section
namespace Go.Tev
def eQ(p:aC)(vars:List Str)(values:Int):Bool:=
 if p.op.bs=[99,111,110,115,116] then d7 p true false false false false false&&decide ((p.kids.length:Int)=0)&&lE p.num
 else if p.op.bs=[108,105,110,101,97,114] then d7 p false false false true false false&&decide ((p.kids.length:Int)=0)&&decide ((p.at_.es.length:Int)=1)
 else if p.op.bs=[114,101,97,100] then rT p values
 else if p.op.bs=[105,102] then d7 p false false false true false false&&decide ((p.kids.length:Int)=2)&&decide ((p.at_.es.length:Int)=1)
 else if p.op.bs=[114,101,100,117,99,101] then d7 p false false true true false true&&decide ((p.kids.length:Int)=2)&&decide ((p.at_.es.length:Int)=1)&&fJ p.name.bs && !jR vars p.name.bs&&cM p.fn.es 2
 else if p.op.bs=[99,111,100,101] then d7 p false false false false false true&&cM p.fn.es p.kids.length
 else match hU p.op.bs with
  |none=>false
  |some q=>d7 p false false false false false false&&decide ((p.kids.length:Int)=(q.params.length:Int))
section
variable{pg:Pg}
set_option maxHeartbeats 1000000 in
theorem c182(hname:∀s:Str,Ret pg 57 [.str s.bs] (.bool (fJ s.bs)))(hf:pg.fs 182=some cf182)(h206:pg.fs 206=some cf206)(h148:pg.fs 148=some cf148)(h207:pg.fs 207=some cf207)(h98:pg.fs 98=some cf98)(h138:pg.fs 138=some cf138)
  (h70:∀(nl cl:Bool)(fn:List aI),fn.length<=big->∀n:Int,Ret pg 70 [.sl nl (fn.map aI.av) cl,.int .i64 n] (.bool (cM fn n))) (h140:∀op,bL pg 140 [.str op] (iJ op))
  (p:aC) (hk:p.kids.length<=big) (nl cl:Bool) (vars:List Str) (hb:vars.length<=big) (v:Int):Ret pg 182 [p.av,.sl nl (vars.map Str.av) cl,.int .i64 v] (.bool (eQ p vars v)):=by
 have k1:=GK h206 p
 have k2:=MU h206 p
 have k3:=MT h206 p
 have k4:=JF h206 p
 have k5:=OQ h206 p
 have k6:=c207 h207 h206 p hk v
 have k7:=PO h148 p.num
 have k8:=hname p.name
 have k9:Ret pg 98 [.sl nl (vars.map Str.av) cl,.str p.name.bs] (.bool (jR vars p.name.bs)):=c98 h98 h138 nl cl vars hb p.name.bs
 have k10:=h70 p.fn.nl p.fn.cl p.fn.es p.fn.ok 2
 have k11:=h70 p.fn.nl p.fn.cl p.fn.es p.fn.ok p.kids.length
 rw[aC.avc]at k1 k2 k3 k4 k5 k6
 refine Ret.ofX hf ?_
 clear h206 h148 h207 h98 h138 h70 hname
 unfold cf182
 simp only[go_sem,seval]
 cases o1:decide (p.op.bs=[99,111,110,115,116])
 case true=>
  clear h140
  repeat' (first|simp only[*,go_sem,seval]|refine aK (fun _=>?_) (fun _=>?_)|refine aL (fun _=>?_) (fun _=>?_)|(refine aB k1 (by simp only[go_sem,seval]) rfl ?_)|(refine aB k7 (by simp only[go_sem,seval]) rfl ?_)|refine And.intro (by kernel_rfl) ?_)
  all_goals (clear k1 k2 k3 k4 k5 k6 k7 k8 k9 k10 k11)
  all_goals (simp_all [eQ])
 simp only[go_sem,seval]
 cases o2:decide (p.op.bs=[108,105,110,101,97,114])
 case true=>
  clear h140
  repeat' (first|simp only[*,go_sem,seval]|refine aK (fun _=>?_) (fun _=>?_)|refine aL (fun _=>?_) (fun _=>?_)|(refine aB k2 (by simp only[go_sem,seval]) rfl ?_)|refine And.intro (by kernel_rfl) ?_)
  all_goals (clear k1 k2 k3 k4 k5 k6 k7 k8 k9 k10 k11)
  all_goals (simp_all [eQ])
 simp only[go_sem,seval]
 cases o3:decide (p.op.bs=[114,101,97,100])
 case true=>
  clear h140
  repeat' (first|simp only[*,go_sem,seval]|refine aK (fun _=>?_) (fun _=>?_)|refine aL (fun _=>?_) (fun _=>?_)|(refine aB k6 (by simp only[go_sem,seval]) rfl ?_)|refine And.intro (by kernel_rfl) ?_)
  all_goals (clear k1 k2 k3 k4 k5 k6 k7 k8 k9 k10 k11)
  all_goals (simp_all [eQ])
 simp only[go_sem,seval]
 cases o4:decide (p.op.bs=[105,102])
 case true=>
  clear h140
  repeat' (first|simp only[*,go_sem,seval]|refine aK (fun _=>?_) (fun _=>?_)|refine aL (fun _=>?_) (fun _=>?_)|(refine aB k2 (by simp only[go_sem,seval]) rfl ?_)|refine And.intro (by kernel_rfl) ?_)
  all_goals (clear k1 k2 k3 k4 k5 k6 k7 k8 k9 k10 k11)
  all_goals (simp_all [eQ])
 simp only[go_sem,seval]
 cases o5:decide (p.op.bs=[114,101,100,117,99,101])
 case true=>
  clear h140
  repeat' (first|simp only[*,go_sem,seval]|refine aK (fun _=>?_) (fun _=>?_)|refine aL (fun _=>?_) (fun _=>?_)|(refine aB k3 (by simp only[go_sem,seval]) rfl ?_)|(refine aB k8 (by simp only[go_sem,seval]) rfl ?_)|(refine aB k9 (by simp only[go_sem,seval]) rfl ?_)|(refine aB k10 (by simp only[go_sem,seval]) rfl ?_)|refine And.intro (by kernel_rfl) ?_)
  all_goals (clear k1 k2 k3 k4 k5 k6 k7 k8 k9 k10 k11)
  all_goals (simp_all [eQ])
 simp only[go_sem,seval]
 cases o6:decide (p.op.bs=[99,111,100,101])
 case true=>
  clear h140
  repeat' (first|simp only[*,go_sem,seval]|refine aK (fun _=>?_) (fun _=>?_)|refine aL (fun _=>?_) (fun _=>?_)|(refine aB k4 (by simp only[go_sem,seval]) rfl ?_)|(refine aB k11 (by simp only[go_sem,seval]) rfl ?_)|refine And.intro (by kernel_rfl) ?_)
  all_goals (clear k1 k2 k3 k4 k5 k6 k7 k8 k9 k10 k11)
  all_goals (simp_all [eQ])
 obtain⟨r,hr,hP⟩:=h140 p.op.bs
 clear h140
 have hspec:eQ p vars v=match hU p.op.bs with
  |none=>false
  |some q=>d7 p false false false false false false&&decide ((p.kids.length:Int)=(q.params.length:Int)):=by
  simp at o1 o2 o3 o4 o5 o6
  simp[eQ,o1,o2,o3,o4,o5,o6]
 generalize eQ p vars v=res at hspec ⊢
 obtain⟨nl',cl',ps,rs,ok,rfl,hres⟩:∃nl cl,∃ps:List (List UInt8),∃rs ok,r = .tup [.sl nl (ps.map .str) cl,.str rs,.bool ok]/\res=(ok&&d7 p false false false false false false&&decide ((p.kids.length:Int)=(ps.length:Int))):=by
  unfold iJ at hP
  cases hp:hU p.op.bs with
  |none=>
   rw[hp]at hP hspec
   exact⟨_,_,[],_,_,hP,by simp[hspec]⟩
  |some q=>
   rw[hp]at hP hspec
   obtain⟨nl,cl,hP⟩:=hP
   exact⟨_,_,q.params,_,_,hP,by simp[hspec]⟩
 clear hP hspec
 have htr:treeL (ps.map AV.str)=true:=bG (f:=AV.str) (fun _=>rfl) ps
 repeat' (first|simp only[*,go_sem,seval]|refine aK (fun _=>?_) (fun _=>?_)|refine aL (fun _=>?_) (fun _=>?_)|(refine aB hr (by simp only[go_sem,seval]) rfl ?_)|(refine aB k5 (by simp only[go_sem,seval]) rfl ?_)|refine And.intro (by kernel_rfl) ?_)
 all_goals (clear k1 k2 k3 k4 k5 k6 k7 k8 k9 k10 k11 hr)
 all_goals (simp_all)
end
end Go.Tev
end
