import Derived.Test.YtmcadllokkmeiaaGreatDoorBAS
import Derived.Test.YtmcadllokkmeiaaGreatDoorBAH
import Derived.Test.YtmcadllokkmeiaaGreatDoorBAM
set_option linter.all false
namespace Go.Tev
section
def eW(q:aG):List Int:=cT q.body++if decide (q.kind=3) then cT q.index++[q.source] else []
theorem lZ(p:aC):(cT p).length<=p.sz:=by have e1:=tE (lN (fK p));have e2:=nT (fK p);have e3:=tR p;simp only[cT];omega
section
variable{pg:Pg}{kb:Nat}
theorem OD{esz bytes s k1:Nat}{ag:Bool}{h:Hp}{v:AV}{es xs:List AV}{nl cl:Bool}{Q:AV->Eff->Prop}{t:Tok Q}(o:Own h k1 esz ag v es)(hk1:k1≠kb+s)(he:∀x∈es,El esz ag x)(hx:∀x∈xs,El esz ag x)
  (hl:es.length+xs.length<=1073741824) (hb:bytes<=65536)
  (q1:xs=[]->∀rd,(rd=[]\/rd=[k1])->Q v (.pat rd []))
  (q2:xs≠[]->∀v' rd pa,Own (Eff.app h (.pat rd pa)) (kb+s) esz ag v' (es++xs)->(∀k,k≠kb+s->k≠k1->(Eff.app h (.pat rd pa)).get k=h.get k) ->
   ((∃e ob,rd=[kb+s]/\pa=[⟨kb+s,e,ob⟩])\/(∃e1 o1 e ob,rd=[kb+s,k1]/\pa=[⟨k1,e1,o1⟩,⟨kb+s,e,ob⟩]))->Q v' (.pat rd pa)) :
  XO pg kb (.app esz ag bytes) s h [v,.sl nl xs cl] Q t:=by
 rw[jW];obtain⟨ds,d1,d2,d3,_⟩:=eD hx;simp only[pJ,bH,d1,Option.map_some];by_cases hxs:xs=[]
 subst hxs;cases d1;rcases o with ⟨rfl,nl',cl',rfl,hc⟩|⟨e,cs,rfl,hg,hu⟩
 simp only[nJ,List.length_nil,aN];exact q1 rfl _ (.inl rfl);obtain⟨cs',c1,c2,_,_⟩:=eD he;rw[hu]at c1;cases c1;simp only[nJ,hg,List.length_nil,aN,true_and,bF];rw[if_pos (by omega)];exact q1 rfl _ (.inr rfl);have hn:xs.length≠0:=by simpa using hxs
 rcases o with ⟨rfl,nl',cl',rfl,hc⟩|⟨e,cs,rfl,hg,hu⟩
 simp only[nJ,hn,aL,hc,List.length_nil,bF,cE];have hlx:xs.length<=1073741824:=by simpa using hl
 simp only[hlx,hb,decide_true,Bool.and_self,aN,cK,fW];refine q2 hxs _ _ _ (.inr ⟨_,ds,rfl,?_,by simpa using d1⟩) ?_ (.inl ⟨_,_,rfl,rfl⟩);rw[nI,aI,if_pos rfl];intro k hk _;rw[nI,aI,if_neg (Ne.symm hk)];obtain⟨cs',c1,c2,_,_⟩:=eD he;rw[hu]at c1;cases c1;have h1:¬(es.length+xs.length<=es.length):=by omega
 have h2:(k1==kb+s)=false:=by simpa using hk1
 simp only[nJ,hg,hn,aL,true_and,bF];rw[if_pos (by omega)];simp only[h1,aL,hl,hb,decide_true,cE,h2,Bool.not_false,aN,bR];refine q2 hxs _ _ _ (.inr ⟨h.next (kb+s),cs++ds,by simp,?_,kN hu d1⟩) ?_ (.inr ⟨_,_,_,_,rfl,rfl⟩);rw[A7,aI,if_pos rfl];simp[<-c2];intro k hk hk2;rw[A7,aI,if_neg (Ne.symm hk),aI,if_neg (Ne.symm hk2)]
end
section
variable{pg:Pg}
theorem c30(S:ZM pg)(hf:pg.fs 30=some aDX)(h48:pg.fs 48=some V3)(h74:pg.fs 74=some Q3)(q:aG)(h1:q.body.ok)(h2:q.index.ok)(hsz:q.body.sz+q.index.sz+1<=big) :
  bQ pg 30 [q.av] (pA 1 false ((eW q).map aH)):=by
 have a1:=c48 S h48 h74 q.body h1 (by omega);have a2:=c48 S h48 h74 q.index h2 (by omega);rw[aC.avc]at a1 a2;have l1:=lZ q.body;have l2:=lZ q.index;simp only[big]at hsz;refine bQ.ofX hf ?_;unfold aDX;refine Wk ?_;refine CL a1 (by simp only[go_sem,seval]) (El.ints _) ?_;intro v rd pa ho hk _;have k1:=hk 1 (by omega);simp only[go_sem,seval]at k1;simp only[k1,go_sem,seval];cases h3:decide (q.kind=3);refine Wk ?_;have hr:eW q=cT q.body:=by simp[eW,h3]
 rw[hr];exact ho.conv (El.ints _)
 ·simp only[k1,go_sem,seval];refine mN a2 (by simp only[go_sem,seval]) ?_;intro nl2 cl2 _;refine Wk ?_;have hr:eW q=cT q.body++(cT q.index++[q.source]):=by simp[eW,h3]
  rw[hr];have fin:∀(v2:AV)(kk:Nat)(H:Hp)(es:List Int),Own H kk 1 false v2 (es.map aH)->es=cT q.body++(cT q.index++[q.source])->∃r,Tev.conv H v2=some r/\pA 1 false ((cT q.body++(cT q.index++[q.source])).map aH) r:=by rintro v2 kk H es o rfl;exact o.conv (El.ints _)
  generalize hH:Eff.app _ (Eff.pat rd pa)=H at ho k1 ⊢;clear hH hk hr a1 a2;refine OD (kb:=0) (s:=13) (k1:=5) ho (by omega) (El.ints _) (El.ints _) (by simp only[aM];omega) (by decide) ?_ ?_
  ·intro hx rd1 hrd1;have hx':cT q.index=[]:=by simpa using hx
   have k2:=k1;simp only[k1,go_sem,seval];refine OD (kb:=0) (s:=17) (k1:=5) ho (by omega) (El.ints _) (xs:=[.int .i64 q.source]) (by intro y hy;simp at hy;subst hy;exact⟨rfl,rfl,rfl⟩) (by simp only[aM,List.length_singleton];omega) (by decide) (by intro h;cases h) ?_;intro _ v2 rd2 pa2 ho2 hk2 hform;have ho3:=fin _ 17 _ (cT q.body++[q.source]) (by simpa[uE] using ho2) (by rw[hx'];simp);clear ho2 hk2 k2 k1 ho;rcases hrd1 with rfl|rfl<;>rcases hform with ⟨e,ob,rfl,rfl⟩|⟨e1,o1,e,ob,rfl,rfl⟩
   all_goals (simp only[go_sem,seval])
   all_goals (refine aY ?_)
   all_goals (exact ho3)
  ·intro hx v1 rd1 pa1 ho1 hk1 hform1;have k2:=hk1 1 (by omega) (by omega);rw[k1]at k2;simp only[k2,go_sem,seval];refine OD (kb:=0) (s:=17) (k1:=13) ho1 (by omega) (by rw[<-List.map_append];exact El.ints _) (xs:=[.int .i64 q.source]) (by intro y hy;simp at hy;subst hy;exact⟨rfl,rfl,rfl⟩) (by simp only[aM,dC,List.length_singleton];omega) (by decide) (by intro h;cases h) ?_;intro _ v2 rd2 pa2 ho2 hk2 hform;have ho3:=fin _ 17 _ (cT q.body++cT q.index++[q.source]) (by simpa[uE] using ho2) (by simp);clear ho2 hk2 ho1 hk1 k2 k1;rcases hform1 with ⟨e',ob',rfl,rfl⟩|⟨e1',o1',e',ob',rfl,rfl⟩<;>rcases hform with ⟨e,ob,rfl,rfl⟩|⟨e1,o1,e,ob,rfl,rfl⟩
   all_goals (simp only[go_sem,seval])
   all_goals (refine aY ?_)
   all_goals (exact ho3)
end
end
section
abbrev Sp:=Int×Int
def bO(s:Sp):AV:=.agg [.int .i64 s.1,.int .i64 s.2]
def aV:List Sp->List AV
 |[]=>[]
 |s::r => .int .i64 s.1 :: .int .i64 s.2::aV r
theorem eL:∀l,(aV l).length=l.length*2
 |[]=>rfl
 |s::r=>by simp only[aV,List.length_cons,eL r];omega
theorem nS:∀l,cK 2 true (l.map bO)=some (aV l)
 |[]=>rfl
 |s::r=>by simp[bO,cK,nS r,AV.fits,aV,AV.cells];rfl
theorem mR(l:List Sp):∀x∈l.map bO,El 2 true x:=by intro x hx;obtain⟨b,_,rfl⟩:=List.mem_map.1 hx;exact⟨rfl,rfl,rfl⟩
theorem sK:∀(l:List Sp)(v:Nat)(s:Sp),l[v]?=some s->(aV l)[v*2]?=some (.int .i64 s.1)/\(aV l)[v*2+1]?=some (.int .i64 s.2)
 |[],v,s,h=>by simp at h
 |t::r,0,s,h=>by simp at h;subst h;exact⟨rfl,rfl⟩
 |t::r,v+1,s,h=>by have:=sK r v s (by simpa using h);rw[show (v+1)*2=v*2+1+1 from by omega];simpa[aV] using this
theorem vI:∀(l:List Sp)(v:Nat)(a b:Int),((aV l).set (v*2) (.int .i64 a)).set (v*2+1) (.int .i64 b)=aV (l.set v (a,b))
 |[],v,a,b=>by simp[aV]
 |t::r,0,a,b=>rfl
 |t::r,v+1,a,b=>by rw[show (v+1)*2=v*2+1+1 from by omega];simp only[aV,List.set_cons_succ];rw[vI r v a b]
theorem CS:∀(l:List Sp)(v:Nat)(a:Int),(aV l).set (v*2) (.int .i64 a)=aV (l.modify v (λs=>(a,s.2)))
 |[],v,a=>by simp[aV]
 |t::r,0,a=>rfl
 |t::r,v+1,a=>by rw[show (v+1)*2=v*2+1+1 from by omega];simp only[aV,List.set_cons_succ,List.modify_succ_cons];rw[CS r v a]
theorem CR:∀(l:List Sp)(v:Nat)(a:Int),(aV l).set (v*2+1) (.int .i64 a)=aV (l.modify v (λs=>(s.1,a)))
 |[],v,a=>by simp[aV]
 |t::r,0,a=>rfl
 |t::r,v+1,a=>by rw[show (v+1)*2=v*2+1+1 from by omega];simp only[aV,List.set_cons_succ,List.modify_succ_cons];rw[CR r v a]
theorem aFc{h:Hp}{e:Nat}{sp:List Sp}(hg:h.get 9=some (e,.blk (aV sp) 2 true false false))(d:Nat):Tev.snap (d+2) h (.rf 9 e 0 sp.length sp.length)=some (.sl false (sp.map bO) false,[9]):=by obtain⟨cs',h1,h2,h3,h4⟩:=eD (mR sp);rw[nS]at h1;cases h1;have h5:=h4 [];rw[List.append_nil,aM]at h5;have ht:treeL (sp.map bO)=true:=cH (f:=bO) (λs=>by simp[bO,go_sem]) sp;have h6:eN (Tev.snap (d+1) h) (sp.map bO)=some (sp.map bO,[]):=fI d h ht;rw[fE];simp[hg,h5,h6,AV.tree]
def jX(sp:List Sp)(v:Int)(x:Int):List Sp:=sp.modify v.toNat (λs=>(s.1,x))
def iM(sp:List Sp)(v:Int)(x:Int):List Sp:=sp.modify v.toNat (λs=>(x,s.2))
def jD(sp:List Sp)(v:Int):Int:=match sp[v.toNat]? with|some s=>s.1|none=>0
def d8(V i:Nat):List Sp:=List.replicate i (-1,-1)++List.replicate (V-i) (-2,-2)
def eU(sp:List Sp)(i:Nat)(l:List Int):List Sp:=l.foldl (λs v=>jX s v i) sp
def kF(sp:List Sp)(i:Nat)(q:aG):List Sp:=
 eU (jX (if decide (jD sp q.value = -2) then iM sp q.value i else sp) q.value i) i (eW q)
def gM:List Sp->Nat->List aG->List Sp
 |sp,_,[]=>sp
 |sp,i,q::r=>gM (kF sp i q) (i+1) r
def pG(sp:List Sp)(n:Nat)(l:List Int):List Sp:=l.foldl (λs v=>jX s v n) sp
def aD(k:aA):List Sp:=pG (gM (d8 k.aSe.es.length k.aSg.toNat) 0 k.aSf.es) k.aSf.es.length k.results.es
theorem xB(sp:List Sp)(v x:Int):(jX sp v x).length=sp.length:=by simp[jX]
theorem vM(sp:List Sp)(v x:Int):(iM sp v x).length=sp.length:=by simp[iM]
theorem kO(i:Nat):∀(l:List Int)(sp:List Sp),(eU sp i l).length=sp.length
 |[],sp=>rfl
 |v::r,sp=>by simp only[eU,List.foldl_cons];exact(kO i r _).trans (xB _ _ _)
theorem zM(sp:List Sp)(i:Nat)(d:List Int)(x:Int):eU sp i (d++[x])=jX (eU sp i d) x i:=by simp[eU]
theorem yE(sp:List Sp)(i:Nat)(q:aG):(kF sp i q).length=sp.length:=by simp only[kF,kO,xB];split<;>simp[vM]
theorem sJ:∀(l:List aG)(sp:List Sp)(i:Nat),(gM sp i l).length=sp.length
 |[],sp,i=>rfl
 |q::r,sp,i=>by rw[gM,sJ r,yE]
theorem yF:∀(d:List aG)(sp:List Sp)(i:Nat)(q:aG),gM sp i (d++[q])=kF (gM sp i d) (i+d.length) q
 |[],sp,i,q=>rfl
 |x::r,sp,i,q=>by simp only[List.cons_append,gM,yF r,List.length_cons];congr 1;omega
theorem lY{V i:Nat}(h:i<=V):(d8 V i).length=V:=by simp[d8];omega
theorem S9{V i:Nat}(h:i<V):(d8 V i).set i (-1,-1)=d8 V (i+1):=by
 obtain⟨m,rfl⟩:∃m,V=i+(m+1):=⟨V-i-1,by omega⟩
 simp only[d8];rw[List.set_append_right _ _ (by simp)];have e1:i+(m+1)-i=m+1:=by omega
 have e2:i+(m+1)-(i+1)=m:=by omega
 rw[e1,e2,List.replicate_succ (n:=m),List.replicate_succ' (n:=i)];simp
theorem rE{k:aA}{th:List Bool}{p:aC}{n:Nat}{nt:Int}(h:gB k th p n nt=true):∀a∈cT p,0<=a/\a<k.aSe.es.length/\bS th a=true/\a≠nt:=by intro a ha;simp only[gB,jQ,aF,eA]at h;have h2:=h.2;rw[List.any_eq_false]at h2;have h3:=h2 a ha;simp only[Bool.or_eq_true,eA,aR,not_or,Bool.not_eq_false]at h3;have ha':=ha;simp only[cT,oB,pX]at ha';obtain⟨h4,h5⟩:=qX _ p _ h.1.2 a ha';exact⟨h4,h5,h3.1,h3.2⟩
theorem wE{k:aA}{th:List Bool}{q:aG}{i:Nat}(h:cO k th q i=true):∀a∈eW q,0<=a/\a<k.aSe.es.length/\bS th a=true:=by
 intro a ha;simp only[cO,aF]at h;obtain⟨_,h⟩:=h;split at h;cases h;rename_i t ht;simp only[aF,eA]at h;obtain⟨⟨⟨⟨_,_⟩,h3⟩,_⟩,h5⟩:=h;simp only[eW,jM]at ha;simp only[xY]at h5;split at h5;rename_i h6;simp only[aF]at h5;have h7:decide (q.kind=3)=false:=by simp at h6 ⊢;omega
 rw[h7]at ha;rcases ha with ha|ha;obtain⟨x1,x2,x3,_⟩:=rE h5.2 a ha;exact⟨x1,x2,x3⟩;simp at ha;split at h5;rename_i h6;simp only[aF]at h5;have h7:decide (q.kind=3)=false:=by simp at h6 ⊢;omega
 rw[h7]at ha;rcases ha with ha|ha;obtain⟨x1,x2,x3,_⟩:=rE h5.2 a ha;exact⟨x1,x2,x3⟩;simp at ha;split at h5;rename_i h6;simp only[aF]at h5;rw[if_pos h6]at h3 ha;rcases ha with ha|ha;obtain⟨x1,x2,x3,_⟩:=rE h5.1 a ha;exact⟨x1,x2,x3⟩;rw[jM]at ha;rcases ha with ha|ha;obtain⟨x1,x2,x3,_⟩:=rE h5.2 a ha;exact⟨x1,x2,x3⟩;simp only[List.mem_singleton]at ha;subst ha;simp only[AA,Bool.or_eq_false_iff,eJ,Bool.not_eq_false']at h3;exact⟨by omega,by omega,h3.1.2⟩;cases h5
theorem IM{k:aA}:∀(l:List aG)(th:List Bool)(i:Nat),pC k th l i=none->∀d q r,l=d++q::r->cO k (cB th d) q (i+d.length)=true
 |[],th,i,_,d,q,r,he=>by cases d<;>simp at he
 |x::l,th,i,h,d,q,r,he=>by
  simp only[pC]at h;split at h;rename_i hx;cases d with
  |nil=>simp at he;obtain⟨rfl,rfl⟩:=he;exact hx
  |cons y d=>simp at he;obtain⟨rfl,rfl⟩:=he;have:=IM _ _ _ h d q r rfl;rw[List.length_cons,show i+(d.length+1)=i+1+d.length from by omega];exact this
  cases h
structure gT(k:aA):Prop where
 out:bJ k=true
 ker:∀d q r,k.aSf.es=d++q::r->cO k (cB (gW k) d) q d.length=true
 res:∀v∈k.results.es,0<=v/\v<k.aSe.es.length/\bS (cB (gW k) k.aSf.es) v=true
 one:0<k.results.es.length
theorem cA{k:aA}(h:(cY k).2=0):gT k:=by simp only[cY]at h;split at h;rename_i ho;split at h;simp at h;rename_i hr;split at h;simp at h;rename_i hb;simp only[fG,Bool.or_eq_true,not_or,Bool.not_eq_true,aR,eJ,List.any_eq_false]at hb;obtain⟨⟨h1,h2⟩,h3⟩:=hb;refine⟨ho,λd q r he=>by simpa using IM _ _ _ hr d q r he,λv hv=>?_,by omega⟩;have h4:=h3 v hv;simp only[eM,Bool.or_eq_false_iff,eJ,Bool.not_eq_false',not_or,Bool.not_eq_true,Bool.or_eq_true,aR]at h4;obtain⟨⟨x1,x2⟩,x3⟩:=h4;exact⟨by omega,by omega,by simpa using x3⟩;simp at h
theorem lD{k:aA}:(cY k).2=0\/(cY k).2=22:=by simp only[cY];split;split;exact .inr rfl;split;exact .inr rfl;exact .inl rfl;exact .inr rfl
end
section
def lI(k:aA)(r:AV):Prop:=
 if (cY k).2=0 then r = .tup [.sl false ((aD k).map bO) false,.int .i64 0] else r = .tup [.sl true [] true,.int .i64 22]
theorem YC{l:List AV}{n:Nat}(x y:AV)(h:n*2+1<l.length):List.take (0+n*2) l++[x,y]++List.drop (0+n*2+2) l=(l.set (n*2) x).set (n*2+1) y:=by
 obtain⟨a,u,v,m,rfl,ha⟩:∃a u v m,l=a++u::v::m/\a.length=n*2:=by refine⟨l.take (n*2),l[n*2],l[n*2+1],l.drop (n*2+1+1),?_,by simp;omega⟩;rw[<-i8 h,<-i8 (by omega),List.take_append_drop]
 rw[bF,<-ha];simp[List.set_append]
theorem YD{l:List AV}{n:Nat}(x:AV)(h:n<l.length):List.take n l++[x]++List.drop (n+1) l=l.set n x:=by rw[List.set_eq_take_append_cons_drop,if_pos h];simp
theorem OW(sp:List Sp)(v x:Int)(h:v.toNat<sp.length):List.take (0+v.toNat*2+1) (aV sp)++[.int .i64 x]++List.drop (0+v.toNat*2+1+1) (aV sp)=aV (jX sp v x):=by rw[bF,YD _ (by rw[eL];omega),CR];rfl
theorem aEY(sp:List Sp)(v x:Int)(h:v.toNat<sp.length):List.take (0+v.toNat*2+0) (aV sp)++[.int .i64 x]++List.drop (0+v.toNat*2+0+1) (aV sp)=aV (iM sp v x):=by rw[bF,Nat.add_zero,YD _ (by rw[eL];omega),CS];rfl
theorem P4(sp:List Sp)(v:Int)(h:v.toNat<sp.length):(0+v.toNat*2+1+1<=(aV sp).length)=True:=aK (by rw[eL];omega)
theorem aFC(sp:List Sp)(v:Int)(h:v.toNat<sp.length):(0+v.toNat*2+0+1<=(aV sp).length)=True:=aK (by rw[eL];omega)
theorem aFD(sp:List Sp)(v:Int)(h:v.toNat<sp.length):(aV sp)[0+v.toNat*2+0]?=some (.int .i64 (jD sp v)):=by
 obtain⟨s,hs⟩:∃s,sp[v.toNat]?=some s:=⟨_,aW h⟩
 rw[bF,Nat.add_zero,(sK sp _ s hs).1];simp[jD,hs]
section
variable{pg:Pg}
theorem c9 (hf:pg.fs 9=some cf9) (h28:∀k:aA,(k.vars.nl=true->k.vars.es=[])->(∀q∈k.aSf.es,q.body.ok/\q.index.ok/\k.vars.es.length+9+q.body.sz<=big/\k.vars.es.length+9+q.index.sz<=big) ->
   Ret pg 28 [k.av] (.tup [.int .i64 (cY k).1,.int .i64 (cY k).2]))
  (h29:∀(nl cl:Bool)(a b:Int)(n:Nat),n<=big->bQ pg 29 [.sl nl [.agg [.int .i64 a,.int .i64 b]] cl,.int .i64 n] (pA 2 true (List.replicate n (.agg [.int .i64 a,.int .i64 b]))))
  (h30:∀q:aG,q.body.ok->q.index.ok->q.body.sz+q.index.sz+1<=big->bQ pg 30 [q.av] (pA 1 false ((eW q).map aH)))
  (k:aA) (hnl:k.vars.nl=true->k.vars.es=[]) (hq:∀q∈k.aSf.es,q.body.ok/\q.index.ok/\k.vars.es.length+9+q.body.sz<=big/\k.vars.es.length+9+q.index.sz<=big) (hq2:∀q∈k.aSf.es,q.body.sz+q.index.sz+1<=big) :
  bQ pg 9 [k.av] (lI k):=by
 have a1:=h28 k hnl hq;have hVb:=k.aSe.ok;have a2:=h29 false true (-2) (-2) k.aSe.es.length hVb;clear h28 h29;refine bQ.ofX hf ?_;unfold cf9;simp only[aA.av,aA.cells,go_sem,seval];refine bZ a1 (by simp only[aA.av,aA.cells,go_sem,seval]) rfl ?_;rcases lD (k:=k) with hc|hc;have ok:=cA hc;have hso:=ok.out;simp only[bJ,aF,aR]at hso;obtain⟨_,⟨⟨⟨⟨⟨⟨_,_⟩,hi0⟩,_⟩,hiV⟩,_⟩,_⟩,_⟩:=hso;have hV:0<k.aSe.es.length:=by obtain⟨v,hv⟩:=List.exists_mem_of_length_pos ok.one;have:=ok.res v hv;omega
 have hsp0:List.replicate k.aSe.es.length (AV.agg [.int .i64 (-2),.int .i64 (-2)])=(d8 k.aSe.es.length 0).map bO:=by simp[d8,bO]
 have hl0:(d8 k.aSe.es.length 0).length=k.aSe.es.length:=lY (Nat.zero_le _);rw[hsp0]at a2;rw[hc];refine Wk ?_;refine ZH a2 (by simp only[go_sem,seval]) (mR _) (λhe=>?_) (λcs hcs _=>?_);have:=congrArg List.length he;rw[aM,hl0,List.length_nil]at this;omega;rw[nS]at hcs;cases hcs;rw[aM,hl0];generalize hE:Hp.next _ (0+9)=E;clear hE a1 a2;obtain⟨ins,hins⟩:∃n:Nat,k.aSg=n:=⟨k.aSg.toNat,by omega⟩
 have hinV:ins<=k.aSe.es.length:=by omega
 have hins':k.aSg.toNat=ins:=by omega
 refine Wk ?_
 refine aJ (List.range ins) (λd r env hp=>env=aDj (.pt 1 0 0) (.rf 9 E 0 k.aSe.es.length k.aSe.es.length) (.int .i64 k.aSg) (.int .i64 d.length) /\
  hp.get 1=some (0,.blk k.cells 6 true true false)/\hp.get 9=some (E,.blk (aV (d8 k.aSe.es.length d.length)) 2 true false false)) ?_ ?_ ?_
 refine⟨rfl,?_,?_⟩;refine Wk ?_;rfl;simp only[go_sem,seval];rintro env hp ⟨rfl,g1,g9⟩;have hr:(List.range ins).length=ins:=List.length_range;rw[hr]at g9 ⊢;have e1:decide ((ins:Int)<k.aSg)=false:=by simp;omega
 have g1':=g1;simp only[aA.cells,Sl.av]at g1;simp only[aDg,aDj,e1,g1,go_sem,seval]
 refine aJ k.aSf.es (λd r env hp=>env=aDi (.pt 1 0 0) (.rf 9 E 0 k.aSe.es.length k.aSe.es.length) (.sl k.aSf.nl (k.aSf.es.map aG.av) k.aSf.cl) (.int .i64 k.aSf.es.length) (.int .i64 d.length) /\
  hp.get 1=some (0,.blk k.cells 6 true true false)/\hp.get 9=some (E,.blk (aV (gM (d8 k.aSe.es.length ins) 0 d)) 2 true false false)) ?_ ?_ ?_
 exact⟨rfl,g1',g9⟩;clear g9 g1 g1' hp;rintro env hp ⟨rfl,g1,g9⟩;have g1':=g1;simp only[aA.cells,Sl.av]at g1;simp only[aDf,aDi,g1,go_sem,seval]
 refine aJ k.results.es (λd r env hp=>env=aDh (.pt 1 0 0) (.rf 9 E 0 k.aSe.es.length k.aSe.es.length) (.sl k.results.nl (k.results.es.map aH) k.results.cl) (.int .i64 k.results.es.length) (.int .i64 d.length) /\
  hp.get 1=some (0,.blk k.cells 6 true true false)/\hp.get 9=some (E,.blk (aV (pG (gM (d8 k.aSe.es.length ins) 0 k.aSf.es) k.aSf.es.length d)) 2 true false false)) ?_ ?_ ?_
 exact⟨rfl,g1',g9⟩;clear g9 g1 g1' hp;rintro env hp ⟨rfl,g1,g9⟩;have hlen:(aD k).length=k.aSe.es.length:=by simp only[aD];rw[show pG=λsp n l=>eU sp n l from rfl];rw[kO,sJ,hins',lY hinV]
 have hspk:pG (gM (d8 k.aSe.es.length ins) 0 k.aSf.es) k.aSf.es.length k.results.es=aD k:=by rw[aD,hins']
 rw[hspk]at g9;have hsn:=aFc g9 61;rw[hlen]at hsn;simp only[aDe,aDh,go_sem,seval];simp only[Tev.conv,depth,fE,cW,bM,↓hsn,go_sem];rw[lI,if_pos hc];clear g9 g1 g1' hp;rintro d v r env hp hes ⟨rfl,g1,g9⟩;obtain⟨v1,v2,_⟩:=ok.res v (by rw[hes];simp);have hrb:=k.results.ok;rw[hes]at hrb;have hget:k.results.es[d.length]?=some v:=by rw[hes];simp
 have hlt:d.length<k.results.es.length:=by rw[hes];simp
 have e1:decide ((d.length:Int)<(k.results.es.length:Int))=true:=by simp;omega
 have e2:((d.length:Int)<(k.results.es.length:Int))=True:=aK (by omega);have v1':(0<=v)=True:=aK v1;have v2':(v<(k.aSe.es.length:Int))=True:=aK v2;have g1':=g1;simp only[aA.cells,Sl.av]at g1;have hln:(pG (gM (d8 k.aSe.es.length ins) 0 k.aSf.es) k.aSf.es.length d).length=k.aSe.es.length:=by rw[show pG=λsp n l=>eU sp n l from rfl];rw[kO,sJ,lY hinV]
 have hvl:v.toNat<(pG (gM (d8 k.aSe.es.length ins) 0 k.aSf.es) k.aSf.es.length d).length:=by rw[hln];omega
 have hsno:jX (pG (gM (d8 k.aSe.es.length ins) 0 k.aSf.es) k.aSf.es.length d) v k.aSf.es.length=pG (gM (d8 k.aSe.es.length ins) 0 k.aSf.es) k.aSf.es.length (d++[v]):=by simp[pG]
 simp only[aDe,aDh,e1,e2,g1,g9,hget,v1',v2',P4 _ v hvl,OW _ v _ hvl,aZ hrb,hsno,go_sem,seval];exact⟨rfl,rfl⟩;clear g9 g1 g1' hp;rintro d q r env hp hes ⟨rfl,g1,g9⟩;obtain⟨v0,v2,_⟩:=d5 (ok.ker d q r hes);have hlb:=k.aSf.ok;rw[hes]at hlb;have hget:k.aSf.es[d.length]?=some q:=by rw[hes];simp
 have hlt:d.length<k.aSf.es.length:=by rw[hes];simp
 have e1:decide ((d.length:Int)<(k.aSf.es.length:Int))=true:=by simp;omega
 have e2:((d.length:Int)<(k.aSf.es.length:Int))=True:=aK (by omega);have v1':(0<=q.value)=True:=aK (by omega);have v2':(q.value<(k.aSe.es.length:Int))=True:=aK v2;obtain⟨p1,p2,_,_⟩:=hq q (by rw[hes];simp);have a3:=h30 q p1 p2 (hq2 q (by rw[hes];simp));rw[aG.avc]at a3;have hrd:=wE (ok.ker d q r hes);have hrlen:(eW q).length<=big:=by have z1:=hq2 q (by rw[hes];simp);have z2:=lZ q.body;have z3:=lZ q.index;simp only[eW,dC];split<;>simp<;>omega
 have hrun:=yF d (d8 k.aSe.es.length ins) 0 q;rw[bF]at hrun;rw[hrun];have hln:(gM (d8 k.aSe.es.length ins) 0 d).length=k.aSe.es.length:=by rw[sJ,lY hinV]
 generalize gM (d8 k.aSe.es.length ins) 0 d=sp at g9 hln ⊢;have hvl:q.value.toNat<sp.length:=by omega
 have hvl2:q.value.toNat<(iM sp q.value d.length).length:=by rw[vM];exact hvl
 have hst:kF sp d.length q=eU (jX (if decide (jD sp q.value = -2) then iM sp q.value d.length else sp) q.value d.length) d.length (eW q):=rfl;rw[hst];clear hst hrun h30 hq hq2;simp only[aDf,aDi,e1,e2,g9,hget,v1',v2',aFD sp q.value hvl,go_sem,seval];cases hfr:decide (jD sp q.value = -2)
 case true=>
  simp only[g9,v1',v2',aFC sp _ hvl,aEY sp _ _ hvl,P4 _ _ hvl2,OW _ _ _ hvl2,go_sem,seval];refine mN a3 (by simp only[go_sem,seval]) ?_;intro nl3 cl3 _;refine Wk ?_
  refine aJ (eW q) (λd2 r2 env hp=>env=JY (.pt 1 0 0) (.rf 9 E 0 k.aSe.es.length k.aSe.es.length) (.int .i64 d.length) (.sl k.aSf.nl (k.aSf.es.map aG.av) k.aSf.cl) (.int .i64 k.aSf.es.length) (.int .i64 d.length) (.sl nl3 ((eW q).map aH) cl3) (.int .i64 (eW q).length) (.int .i64 d2.length) /\
   hp.get 1=some (0,.blk k.cells 6 true true false)/\hp.get 9=some (E,.blk (aV (eU (jX (iM sp q.value d.length) q.value d.length) d.length d2)) 2 true false false)) ?_ ?_ ?_
  refine⟨rfl,?_,?_⟩;refine Wk ?_;exact g1;refine Wk ?_;rfl;clear g9 g1 hp;rintro env hp ⟨rfl,g1,g9⟩;simp only[Q2,JY,aZ hlb,go_sem,seval]
  first|exact⟨rfl,g1,g9⟩
  clear g9 g1 hp;rintro d2 v r2 env hp hes2 ⟨rfl,g1,g9⟩;obtain⟨w1,w2,_⟩:=hrd v (by rw[hes2];simp);have hget2:(eW q)[d2.length]?=some v:=by rw[hes2];simp
  have hlt2:d2.length<(eW q).length:=by rw[hes2];simp
  have f1:decide ((d2.length:Int)<((eW q).length:Int))=true:=by simp;omega
  have f2:((d2.length:Int)<((eW q).length:Int))=True:=aK (by omega);have w1':(0<=v)=True:=aK w1;have w2':(v<(k.aSe.es.length:Int))=True:=aK w2;have hvl3:v.toNat<(eU (jX (iM sp q.value d.length) q.value d.length) d.length d2).length:=by rw[kO,xB];rw[vM];omega
  have hrb2:(d2++v::r2).length<=big:=by rw[<-hes2];exact hrlen
  simp only[Q2,JY,f1,f2,g9,hget2,w1',w2',P4 _ v hvl3,OW _ v _ hvl3,aZ hrb2,go_sem,seval];rw[zM]
  first|exact⟨rfl,g1,rfl⟩|exact g1
 case false=>
  simp only[g9,v1',v2',P4 _ _ hvl,OW _ _ _ hvl,go_sem,seval];refine mN a3 (by simp only[go_sem,seval]) ?_;intro nl3 cl3 _;refine Wk ?_
  refine aJ (eW q) (λd2 r2 env hp=>env=JY (.pt 1 0 0) (.rf 9 E 0 k.aSe.es.length k.aSe.es.length) (.int .i64 d.length) (.sl k.aSf.nl (k.aSf.es.map aG.av) k.aSf.cl) (.int .i64 k.aSf.es.length) (.int .i64 d.length) (.sl nl3 ((eW q).map aH) cl3) (.int .i64 (eW q).length) (.int .i64 d2.length) /\
   hp.get 1=some (0,.blk k.cells 6 true true false)/\hp.get 9=some (E,.blk (aV (eU (jX sp q.value d.length) d.length d2)) 2 true false false)) ?_ ?_ ?_
  refine⟨rfl,?_,?_⟩;refine Wk ?_;exact g1;refine Wk ?_;rfl;clear g9 g1 hp;rintro env hp ⟨rfl,g1,g9⟩;simp only[Q2,JY,aZ hlb,go_sem,seval]
  first|exact⟨rfl,g1,g9⟩
  clear g9 g1 hp;rintro d2 v r2 env hp hes2 ⟨rfl,g1,g9⟩;obtain⟨w1,w2,_⟩:=hrd v (by rw[hes2];simp);have hget2:(eW q)[d2.length]?=some v:=by rw[hes2];simp
  have hlt2:d2.length<(eW q).length:=by rw[hes2];simp
  have f1:decide ((d2.length:Int)<((eW q).length:Int))=true:=by simp;omega
  have f2:((d2.length:Int)<((eW q).length:Int))=True:=aK (by omega);have w1':(0<=v)=True:=aK w1;have w2':(v<(k.aSe.es.length:Int))=True:=aK w2;have hvl3:v.toNat<(eU (jX sp q.value d.length) d.length d2).length:=by rw[kO,xB];omega
  have hrb2:(d2++v::r2).length<=big:=by rw[<-hes2];exact hrlen
  simp only[Q2,JY,f1,f2,g9,hget2,w1',w2',P4 _ v hvl3,OW _ v _ hvl3,aZ hrb2,go_sem,seval];rw[zM]
  first|exact⟨rfl,g1,rfl⟩|exact g1
 rintro d x r env hp hes ⟨rfl,g1,g9⟩;obtain⟨hx,hlt⟩:=iD hes;have hb2:(d++x::r).length<=big:=by rw[<-hes];simp;omega
 have hlen:(d8 k.aSe.es.length d.length).length=k.aSe.es.length:=lY (by omega);have e1:decide ((d.length:Int)<k.aSg)=true:=by simp;omega
 have e2:((d.length:Int)<(k.aSe.es.length:Int))=True:=aK (by omega);have e3:(0+d.length*2+2<=(aV (d8 k.aSe.es.length d.length)).length)=True:=aK (by rw[eL,hlen];omega);have e4:=YC (l:=aV (d8 k.aSe.es.length d.length)) (n:=d.length) (.int .i64 (-1)) (.int .i64 (-1)) (by rw[eL,hlen];omega);rw[vI,S9 (by omega)]at e4;simp only[aDg,aDj,e1,e2,g9,e3,e4,aZ hb2,go_sem,seval];rw[dC];exact⟨rfl,g1,rfl⟩;rw[hc];refine Wk ?_;rw[lI,hc];rfl
end
end
section
def fL(p q:Int×Int):Bool:=decide (0<p.2)&&decide (0<q.2)&&decide (p.1<q.1+q.2)&&decide (q.1<p.1+p.2)
def fitScan(s:Int):List (Int×Int)->Int->Int
 |[],at'=>at'
 |p::l,at'=>fitScan s l (if fL p (at',s) then p.1+p.2 else at')
def BC(s:Int)(l:List (Int×Int))(a:Int):Prop:=0<=a/\∀b,0<=b->b<a->∃p∈l,fL p (b,s)=true
def vA(s:Int)(l:List (Int×Int))(a:Int):Prop:=∀p∈l,fL p (a,s)=false
theorem gF{p q:Int×Int}:fL p q=true↔0<p.2/\0<q.2/\p.1<q.1+q.2/\q.1<p.1+p.2:=by simp[fL,and_assoc]
theorem kR(p q:Int×Int):fL p q=fL q p:=by rw[Bool.eq_iff_iff,gF,gF];constructor<;>rintro⟨a,b,c,d⟩<;>exact⟨b,a,d,c⟩
theorem fit_uniq{s:Int}{l:List (Int×Int)}{a b:Int}(h1:BC s l a)(h2:vA s l a)(h3:BC s l b)(h4:vA s l b):a=b:=by rcases Int.lt_trichotomy a b with h|h|h;obtain⟨p,hp,hm⟩:=h3.2 a h1.1 h;rw[h2 p hp]at hm;exact absurd hm (by decide);exact h;obtain⟨p,hp,hm⟩:=h1.2 b h3.1 h;rw[h4 p hp]at hm;exact absurd hm (by decide)
theorem min_zero(s:Int)(l:List (Int×Int)):BC s l 0:=⟨Int.le_refl 0,λb h1 h2=>absurd h2 (by omega)⟩
theorem PY{s:Int}{l:List (Int×Int)}{a:Int}{p:Int×Int}(h:BC s l a)(hp:p∈l)(hm:fL p (a,s)=true):BC s l (p.1+p.2)/\a<p.1+p.2:=by have hm':=gF.1 hm;dsimp only at hm';have h0:=h.1;refine⟨⟨by omega,λb h1 h2=>?_⟩,hm'.2.2.2⟩;by_cases hb:b<a;exact h.2 b h1 hb;refine⟨p,hp,gF.2 ⟨hm'.1,hm'.2.1,?_,h2⟩⟩;dsimp only;omega
theorem aAo{s:Int}{l l':List (Int×Int)}{a:Int}(h:vA s l a)(hp:∀p,p∈l'->p∈l):vA s l' a:=λp q=>h p (hp p q)
theorem PF{s:Int}{l0:List (Int×Int)}:∀{l:List (Int×Int)}{a:Int},(∀p∈l,p∈l0)->BC s l0 a->BC s l0 (fitScan s l a)
 |[],_,_,h=>h
 |p::l,a,hs,h=>by unfold fitScan;refine PF (λq hq=>hs q (dY _ hq)) ?_;split;exact(PY h (hs p List.mem_cons_self) ‹_›).1;exact h
theorem IK{s:Int}(hs:0<s):∀{l:List (Int×Int)}{done:List (Int×Int)}{a:Int},l.Pairwise (λp q=>p.1<=q.1)->(∀p∈done,∀q∈l,p.1<=q.1) ->
  vA s done a->vA s (done++l) (fitScan s l a)
 |[],done,a,_,_,h=>by rw[List.append_nil];exact h
 |p::l,done,a,hp,hd,h=>by
  unfold fitScan;have hp':=List.pairwise_cons.1 hp;have key:vA s (done++[p]) (if fL p (a,s) then p.1+p.2 else a):=by intro q hq;rcases jM.1 hq with hq|hq;split;have hm:=gF.1 ‹fL p (a,s)=true›;have hf:=h q hq;have hle:=hd q hq p List.mem_cons_self;dsimp only at hm;cases hx:fL q (p.1+p.2,s);rfl;have hx':=gF.1 hx;dsimp only at hx';rw[gF.2 ⟨hx'.1,hs,by dsimp only;omega,by dsimp only;omega⟩]at hf;exact hf;exact h q hq;cases List.mem_singleton.1 hq;split;cases hx:fL p (p.1+p.2,s);rfl;have hx':=gF.1 hx;dsimp only at hx';omega;exact Bool.eq_false_iff.2 ‹_›
  have:=IK hs hp'.2 (done:=done++[p]) (λr hr q hq=>by
   rcases jM.1 hr with hr|hr;exact hd r hr q (dY _ hq);cases List.mem_singleton.1 hr;exact hp'.1 q hq) key
  rw[lH,List.singleton_append]at this;exact this
theorem PG{s:Int}(hs:0<s){l l':List (Int×Int)}(hp:∀p,p∈l'↔p∈l)(hq:l'.Pairwise (λp q=>p.1<=q.1)):BC s l (fitScan s l' 0)/\vA s l (fitScan s l' 0):=by refine⟨PF (λp h=>(hp p).1 h) (min_zero s l),?_⟩;have:=IK hs hq (done:=[]) (a:=0) (λ_ h=>absurd h List.not_mem_nil) (λ_ h=>absurd h List.not_mem_nil);rw[fW]at this;exact aAo this (λp h=>(hp p).2 h)
def oQ(s:Int):List (Int×Int)->Int->Bool->Int×Bool
 |[],a,m=>(a,m)
 |p::l,a,m=>if fL (a,s) p then oQ s l (p.1+p.2) true else oQ s l a m
theorem EX{s:Int}{l0:List (Int×Int)}:∀{l:List (Int×Int)}{a:Int}{m:Bool},(∀p∈l,p∈l0)->BC s l0 a->BC s l0 (oQ s l a m).1/\a<=(oQ s l a m).1
 |[],a,m,_,h=>⟨h,Int.le_refl _⟩
 |p::l,a,m,hs,h=>by unfold oQ;split;rename_i hm;rw[kR]at hm;have h1:=PY h (hs p List.mem_cons_self) hm;have h2:=EX (m:=true) (λq hq=>hs q (dY _ hq)) h1.1;exact⟨h2.1,by omega⟩;exact EX (λq hq=>hs q (dY _ hq)) h
theorem yC{s:Int}:∀{l:List (Int×Int)}{a:Int}{m:Bool},(oQ s l a m).2=false->m=false/\(oQ s l a m).1=a/\vA s l a
 |[],a,m,h=>⟨h,rfl,λ_ h=>absurd h List.not_mem_nil⟩
 |p::l,a,m,h=>by unfold oQ at h ⊢;by_cases hm:fL (a,s) p=true;rw[if_pos hm]at h;exact absurd (yC h).1 (by decide);rw[if_neg hm]at h ⊢;obtain⟨h1,h2,h3⟩:=yC h;refine⟨h1,h2,λq hq=>?_⟩;rcases dA.1 hq with rfl|hq;rw[kR];exact Bool.eq_false_iff.2 hm;exact h3 q hq
theorem EW{s:Int}{l0:List (Int×Int)}:∀{l:List (Int×Int)}{a:Int}{m:Bool},(∀p∈l,p∈l0)->(oQ s l a m).2=true->m=true\/∃p∈l0,a<p.1+p.2/\p.1+p.2<=(oQ s l a m).1
 |[],a,m,_,h => .inl h
 |p::l,a,m,hs,h=>by unfold oQ at h ⊢;by_cases hm:fL (a,s) p=true;rw[if_pos hm];right;have hm':=gF.1 hm;dsimp only at hm';refine⟨p,hs p List.mem_cons_self,hm'.2.2.1 |> λ_=>by omega,?_⟩;exact turn_le;rw[if_neg hm]at h ⊢;exact EW (λq hq=>hs q (dY _ hq)) h
where
 turn_le {l:List (Int×Int)} {a:Int} {m:Bool}:a<=(oQ s l a m).1:=by
  induction l generalizing a m with
  |nil=>exact Int.le_refl _
  |cons p l ih=>unfold oQ;split;rename_i hm;have hm':=gF.1 hm;dsimp only at hm';have:=ih (a:=p.1+p.2) (m:=true);omega;exact ih
def OB(l:List (Int×Int))(a:Int):Nat:=(l.filter λp=>decide (a<p.1+p.2)).length
theorem aAY{l:List (Int×Int)}{a b:Int}(hab:a<=b){p:Int×Int}(hp:p∈l)(h1:a<p.1+p.2)(h2:p.1+p.2<=b):OB l b<OB l a:=by
 unfold OB
 induction l with
 |nil=>exact absurd hp List.not_mem_nil
 |cons q l ih=>
  have hle:∀l:List (Int×Int),(l.filter λp=>decide (b<p.1+p.2)).length<=(l.filter λp=>decide (a<p.1+p.2)).length:=by intro l;rw[<-List.countP_eq_length_filter,<-List.countP_eq_length_filter];exact List.countP_mono_left λx _ hx=>decide_eq_true (by have:=aO hx;omega)
  rcases dA.1 hp with rfl|hp;rw[List.filter_cons_of_neg (by simpa using h2),List.filter_cons_of_pos (by simpa using h1)];have:=hle l;simp only[List.length_cons];omega;have:=ih hp;rw[List.filter_cons,List.filter_cons];split<;>split;simp only[List.length_cons];omega;rename_i h3 h4;exact absurd (decide_eq_true (by have:=aO h3;omega)) h4;simp only[List.length_cons];omega;exact this
end
section
def lU(p:Sp):Bool:=decide (p.1<0)||decide (p.2<0)||decide (1000000000<p.1)||decide (1000000000<p.2)
theorem uT{p:Sp}(h:lU p=false):0<=p.1/\0<=p.2/\p.1<=1000000000/\p.2<=1000000000:=by simp only[lU,Bool.or_eq_false_iff,eJ]at h;omega
def FC(l:List Sp):List Sp:=l.mergeSort λa b=>decide (a.1<=b.1)
theorem tM(l:List Sp):(FC l).Pairwise λa b=>a.1<=b.1:=by have:=List.pairwise_mergeSort (le:=λa b:Sp=>decide (a.1<=b.1)) (by intro a b c h1 h2;simp at *;omega) (by intro a b;simp;omega) l;exact this.imp (by intro a b h;simpa using h)
theorem sM(l:List Sp)(p:Sp):p∈FC l↔p∈l:=(List.mergeSort_perm l _).mem_iff
def fitS(l:List Sp)(s:Int):Int:=if s<0\/1000000000<s\/l.any lU=true then -1 else fitScan s (FC l) 0
theorem fitScan_zero:∀(l:List Sp)(a:Int),fitScan 0 l a=a
 |[],_=>rfl
 |p::l,a=>by
  have:fL p (a,0)=false:=by simp[fL]
  rw[fitScan,this];exact fitScan_zero l a
theorem fitScan_bnd{s:Int}:∀{l:List Sp}{a:Int},(∀p∈l,lU p=false)->0<=a->a<=2000000000->0<=fitScan s l a/\fitScan s l a<=2000000000
 |[],_,_,h1,h2=>⟨h1,h2⟩
 |p::l,a,h,h1,h2=>by have hp:=uT (h p (by simp));unfold fitScan;split;exact fitScan_bnd (λq hq=>h q (by simp[hq])) (by omega) (by omega);exact fitScan_bnd (λq hq=>h q (by simp[hq])) h1 h2
theorem fitS_uniq{l:List Sp}{s a:Int}(h:¬(s<0\/1000000000<s\/l.any lU=true))(h1:BC s l a)(h2:vA s l a):a=fitS l s:=by rw[fitS,if_neg h];by_cases h0:s=0;subst h0;rw[fitScan_zero];rcases Int.lt_trichotomy a 0 with h|h|h;have:=h1.1;omega;exact h;obtain⟨p,_,hm⟩:=h1.2 0 (Int.le_refl 0) h;simp[fL]at hm;have h3:=PG (s:=s) (l:=l) (by omega) (sM l) (tM l);exact fit_uniq h1 h2 h3.1 h3.2
section
variable{pg:Pg}
theorem c638(hf:pg.fs 638=some DK)(p q:Sp)(h1:wr .i64 (q.1+q.2)=q.1+q.2)(h2:wr .i64 (p.1+p.2)=p.1+p.2):Ret pg 638 [bO p,bO q] (.bool (fL p q)):=by
 refine Ret.ofX hf ?_;unfold DK;have hs:fL p q=(decide (0<p.2)&&decide (0<q.2)&&decide (p.1<q.1+q.2)&&decide (q.1<p.1+p.2)):=rfl;rw[hs];cases b1:decide (0<p.2)
 case false=>simp only[bO,b1,go_sem,seval]
 cases b2:decide (0<q.2)
 case false=>simp only[bO,b1,b2,go_sem,seval]
 cases b3:decide (p.1<q.1+q.2)
 case false=>simp only[bO,b1,b2,h1,b3,go_sem,seval]
 simp only[bO,b1,b2,h1,b3,h2,go_sem,seval]
theorem j0(l:List Sp):treeL (l.map bO)=true:=cH (f:=bO) (λs=>by simp[bO,go_sem]) l
end
end
section
def fQ(at_:Int)(s:Sp):Bool := !decide (s.1 = -2)&&decide (s.1<=at_)&&decide (at_<=s.2)
def cC(at_:Int)(d:List Sp):List Int:=(d.zipIdx.filter λx=>fQ at_ x.1).map λx=>(x.2:Int)
theorem qN(at_:Int)(d:List Sp)(x:Sp):cC at_ (d++[x])=cC at_ d++if fQ at_ x then [(d.length:Int)] else []:=by simp only[cC,List.zipIdx_append,List.filter_append,List.map_append,List.zipIdx_singleton,bF];congr 1;cases h:fQ at_ x<;>simp[h]
theorem eE{at_:Int}{d:List Sp}{v:Int}:v∈cC at_ d↔∃s,0<=v/\d[v.toNat]?=some s/\fQ at_ s=true:=by simp only[cC,List.mem_map,List.mem_filter,List.mem_zipIdx_iff_getElem?];constructor;rintro⟨⟨s,i⟩,⟨h1,h2⟩,rfl⟩;exact⟨s,by simp,by simpa using h1,h2⟩;rintro⟨s,h0,h1,h2⟩;exact⟨(s,v.toNat),⟨by simpa using h1,h2⟩,by simp;omega⟩
def kL(k:aA)(at_:Int)(r:AV):Prop:=
 if (cY k).2=0 then
  (if at_ < -1\/(k.aSf.es.length:Int)<at_ then r = .tup [.sl true [] true,.int .i64 2] else ∃nl cl,r = .tup [.sl nl ((cC at_ (aD k)).map aH) cl,.int .i64 0])
 else r = .tup [.sl true [] true,.int .i64 22]
theorem jZ{k:aA}(h:k.aSg.toNat<=k.aSe.es.length):(aD k).length=k.aSe.es.length:=by simp only[aD];rw[show pG=λsp n l=>eU sp n l from rfl];rw[kO,sJ,lY h]
section
variable{pg:Pg}
theorem c11(hf:pg.fs 11=some aEk)(k:aA)(h9:bQ pg 9 [k.av] (lI k))(at_:Int):bQ pg 11 [k.av,.int .i64 at_] (kL k at_):=by
 obtain⟨r9,hr9,hs9⟩:=h9;refine bQ.ofX hf ?_;unfold aEk;simp only[aA.av,aA.cells,go_sem,seval];rcases lD (k:=k) with hc|hc;have ok:=cA hc;have hso:=ok.out;simp only[bJ,aF,aR]at hso;obtain⟨_,⟨⟨⟨⟨⟨⟨_,_⟩,hi0⟩,_⟩,hiV⟩,_⟩,_⟩,_⟩:=hso;have hsl:=jZ (k:=k) (by omega);have hVb:=k.aSe.ok;have htr:treeL ((aD k).map bO)=true:=cH (f:=bO) (λs=>by simp[bO,go_sem]) _;rw[lI,if_pos hc]at hs9;subst hs9;refine bZ hr9 (by simp only[aA.av,aA.cells,go_sem,seval]) (by first|rfl|(simp[AV.tree,htr])) (Wk ?_);cases ha:decide (at_ < -1)
 case true=>refine Wk ?_;rw[kL,if_pos hc,if_pos (.inl (by simpa using ha))]
 case false=>
  refine Wk ?_;cases hb:decide ((k.aSf.es.length:Int)<at_)
  case true=>refine Wk ?_;rw[kL,if_pos hc,if_pos (.inr (by simpa using hb))]
  case false=>
   refine Wk ?_;refine aJ (aD k) (λd r env hp=>∃v,env=XJ (.int .i64 at_) v (.sl false ((aD k).map bO) false) (.int .i64 (aD k).length) (.int .i64 d.length)/\Own hp 13 1 false v ((cC at_ d).map aH)) ?_ ?_ ?_;exact⟨_,rfl,Own.nil _ _ _ _ _ _ rfl⟩;rintro env hp ⟨v,rfl,ho⟩;simp only[XI,XJ,go_sem,seval];have hfin:∀r,(∃nl cl,r = .tup [.sl nl ((cC at_ (aD k)).map aH) cl,.int .i64 0])->kL k at_ r:=by intro r hr;rw[kL,if_pos hc,if_neg (by simp at ha hb;omega)];exact hr
   obtain⟨nl,cl,keys,hsn,_⟩:=ho.snap (El.ints _) 61;rcases ho with ⟨he,nl',cl',rfl,_⟩|⟨e,cs,rfl,hg,hu⟩
   rw[<-he];refine Wk ?_;exact hfin _ ⟨nl',cl',by rw[he]⟩;simp only[aM]at hsn;simp only[Tev.conv,depth,fE,cW,bM,↓hsn,go_sem,aM];exact hfin _ ⟨_,_,rfl⟩;rintro d x r env hp hes ⟨v,rfl,ho⟩;have hb2:(d++x::r).length<=big:=by rw[<-hes,hsl];exact hVb
   have hget:(aD k)[d.length]?=some x:=by rw[hes];simp
   have hlt:d.length<(aD k).length:=by rw[hes];simp
   have e1:decide ((d.length:Int)<((aD k).length:Int))=true:=by simp;omega
   have e2:((d.length:Int)<((aD k).length:Int))=True:=aK (by omega);have hll:(cC at_ d).length<=d.length:=by simp only[cC,aM];exact Nat.le_trans (List.length_filter_le _ _) (by simp)
   have hdl:d.length<=16777216:=by simp only[big]at hb2;simp at hb2;omega
   have hin:∀y∈[AV.int .i64 (d.length:Int)],El 1 false y:=by intro y hy;simp at hy;subst hy;exact⟨rfl,rfl,rfl⟩
   have hw:=aZ hb2;have hno:fQ at_ x=false->cC at_ (d++[x])=cC at_ d:=by intro h;rw[qN,h];simp
   simp only[XI,XJ,e1,e2,hget,bO,go_sem,seval];have hgo:∀hp':Hp,hp'.get 13=hp.get 13->Own hp' 13 1 false v ((cC at_ d).map aH):=λhp' h=>ho.mono h;cases b1:decide (x.fst = -2)
   case true=>simp only[hw,go_sem,seval];refine⟨v,rfl,?_⟩;rw[hno (by simp[fQ,b1])];exact hgo _ (by simp only[go_sem,seval])
   cases b2:decide (x.fst<=at_)
   case false=>simp only[hw,b2,go_sem,seval];refine⟨v,rfl,?_⟩;rw[hno (by simp[fQ,b1,b2])];exact hgo _ (by simp only[go_sem,seval])
   cases b3:decide (at_<=x.snd)
   case false=>simp only[hw,b2,b3,go_sem,seval];refine⟨v,rfl,?_⟩;rw[hno (by simp[fQ,b1,b2,b3])];exact hgo _ (by simp only[go_sem,seval])
   simp only[hw,b2,b3,go_sem,seval];refine gR (kb:=0) (s:=13) (hgo _ ?_) (El.ints _) hin (by simp only[aM,List.length_singleton];omega) (by decide) ?_;simp only[go_sem,seval];intro v' rd pa ho2 _ _;simp only[hw,go_sem,seval];refine⟨v',rfl,?_⟩;rw[qN,show fQ at_ x=true by simp[fQ,b1,b2,b3]];simpa[uE] using ho2
 rw[lI,if_neg (by omega)]at hs9;subst hs9;refine bZ hr9 (by simp only[aA.av,aA.cells,go_sem,seval]) rfl (Wk ?_);rw[kL,if_neg (by omega)]
end
end
section
def iT(x:Int):List Int->List Int
 |[]=>[x]
 |y::r=>if decide (y<x) then y::iT x r else if decide (y=x) then y::r else x::y::r
theorem FS{x:Int}:∀(d rest:List Int),(∀y∈d,y<x)->iT x (d++rest)=d++iT x rest
 |[],rest,_=>rfl
 |y::d,rest,h=>by have h1:y<x:=h y (by simp);simp only[List.cons_append,iT,h1,decide_true,aN];rw[FS d rest (λz hz=>h z (dY _ hz))]
theorem zX{x a:Int}:∀l:List Int,a∈iT x l↔a=x\/a∈l
 |[]=>by simp[iT]
 |y::r=>by
  simp only[iT];split;simp only[dA,zX r];constructor<;>(intro h;rcases h with h|h|h<;>simp[h])
  split;rename_i h;simp at h;subst h;simp;simp
theorem FR(x:Int):∀l:List Int,(iT x l).length<=l.length+1
 |[]=>by simp[iT]
 |y::r=>by have:=FR x r;simp only[iT];split;simp;omega;split<;>simp
def IsL(l:List Int)(r:AV):Prop:=(∃nl cl,r = .sl nl (l.map aH) cl)\/r = .os (l.map aH) 1 false
theorem IsL.of{l:List Int}{r:AV}(h:pA 1 false (l.map aH) r):IsL l r:=by rcases h with ⟨he,nl,cl,rfl,_⟩|h;exact .inl ⟨nl,cl,by rw[he]⟩;exact .inr h
section
variable{pg:Pg}
def aFr(kb:Nat)(h:Hp)(k1:Nat)(l:List Int)(r:AV)(h':Hp):Prop:=
 ∃k2,Own h' k2 1 false r (l.map aH)/\(k2=k1\/k2=kb+5\/k2=kb+9)/\∀k,k≠kb+1->k≠kb+5->k≠kb+9->h'.get k=h.get k
theorem BN{h:Hp}{k e:Nat}{l:List Int}(hg:h.get k=some (e,.blk (l.map aH) 1 false false false)){n:Nat}(hn:n=l.length):Own h k 1 false (.rf k e 0 n n) (l.map aH):=by subst hn;exact .inr ⟨e,_,by simp,hg,iU l⟩
theorem F6(l:List Int):(l.map aH).all (λv=>v.cells.length==1)=true:=by rw[eT];intro x hx;obtain⟨y,_,rfl⟩:=List.mem_map.1 hx;rfl
theorem aFe(nl cl:Bool)(d rest:List Int):∃c,∀h,iZ h 1 false true false [.sl nl ((d++rest).map aH) cl,.int .i64 (d.length:Int)]=some (.sl nl (d.map aH) c,.pat [] []):=by refine⟨(nl||cl)&&((d.length:Int)==((((d++rest).map aH).length:Nat):Int)),λh=>?_⟩;simp only[iZ,kX,j1,bR,aL,aN,Option.getD_none,Option.getD_some,F6,Option.isSome_none];rw[if_pos ⟨by omega,by omega,by omega,by simp only[aM,dC];omega,trivial⟩];simp[val]
theorem aBr(nl cl:Bool)(d rest:List Int):∃c,∀h,iZ h 1 true false false [.sl nl ((d++rest).map aH) cl,.int .i64 (d.length:Int)]=some (.sl nl (rest.map aH) c,.pat [] []):=by
 refine⟨(nl||cl)&&true,λh=>?_⟩;simp only[iZ,kX,j1,bR,aL,aN,Option.getD_none,Option.getD_some,F6,Option.isSome_none];rw[if_pos ⟨by omega,by simp only[aM,dC];omega,by omega,by omega,trivial⟩];have e:((d++rest).map aH).drop (d.length:Int).toNat=rest.map aH:=by rw[dU,List.map_append,List.drop_left' (by simp)]
 rw[e,List.take_of_length_le (by simp only[aM,dC];omega)];simp[val]
theorem DU:∀l:List Int,cX (l.map aH)=true
 |[]=>rfl
 |x::r=>by simp only[List.map_cons,cX,DU r];rfl
theorem X1(l:List Int)(a b:Nat):cX (((l.map aH).drop a).take b)=true:=by rw[<-List.map_drop,<-List.map_take];exact DU _
theorem KZ{H:Hp}{k e:Nat}{cs:List AV}{ag ti fz:Bool}(hg:H.get k=some (e,.blk cs 1 ag ti fz)){m n:Nat}(hm:m<=n)(hmx:ti=false) :
  iZ H 1 false true false [.rf k e 0 n n,.int .i64 (m:Int)]=some (.rf k e 0 m n,.pat [k] []):=by
 subst hmx;simp only[iZ,kX,j1,bR,aL,aN,Option.getD_none,Option.getD_some,hg];rw[if_pos (by simp;omega)];simp
theorem YB{H:Hp}{k e:Nat}{cs:List AV}{ag fz:Bool}(hg:H.get k=some (e,.blk cs 1 ag false fz)){m n:Nat}(hm:m<n) :
  iZ H 1 true false false [.rf k e 0 n n,.int .i64 (m:Int)]=some (.rf k e m (n-m) (n-m),.pat [k] []):=by
 simp only[iZ,kX,j1,bR,aL,aN,Option.getD_none,Option.getD_some,hg];rw[if_pos (by simp;omega)];rw[if_neg (by omega)];simp
theorem aBq{H:Hp}{k e:Nat}{cs:List AV}{ag fz:Bool}(hg:H.get k=some (e,.blk cs 1 ag false fz)){n:Nat}(hn:n≠0) :
  iZ H 1 true false false [.rf k e 0 n n,.int .i64 (n:Int)]=some (.sl false [] false,.pat [k] []):=by
 simp only[iZ,kX,j1,bR,aL,aN,Option.getD_none,Option.getD_some,hg];rw[if_neg (by rintro⟨_,_,_,_,_,_,_,h|h|h⟩<;>first|omega|cases h),if_pos (by simp)]
theorem PH{H:Hp}{k e:Nat}{l:List Int}{ag ti fz:Bool}(hg:H.get k=some (e,.blk (l.map aH) 1 ag ti fz)){off m cap:Nat}(hm:off+m<=l.length){xs:List Int}(hx:(l.drop off).take m=xs) :
  bH H 1 false (.rf k e off m cap)=some (xs.map aH,xs.length,[k]):=by
 subst hx;simp only[bH,hg];rw[if_pos ⟨trivial,by simpa using hm,by simpa using X1 l off m⟩];simp;omega
theorem IL{H:Hp}{nl cl:Bool}(xs:List Int):bH H 1 false (.sl nl (xs.map aH) cl)=some (xs.map aH,xs.length,[]):=by simp[bH,iU]
theorem GH{H:Hp}{K:Nat}{src:AV}{xs:List Int}{rd:List Nat}(hs:bH H 1 false src=some (xs.map aH,xs.length,rd))(hx:xs≠[])(hl:xs.length<=1073741824) :
  pJ H K 1 false 8 [.sl false [] true,src]=some (.rf K (H.next K) 0 xs.length xs.length,.pat (K::rd) [⟨K,H.next K,.blk (xs.map aH) 1 false false false⟩]):=by
 have hn:xs.length≠0:=by simpa using hx
 simp[pJ,hs,nJ,hn,hl,cK]
theorem UO{H:Hp}{K:Nat}{src:AV}{rd:List Nat}(hs:bH H 1 false src=some ([],0,rd)) :
  pJ H K 1 false 8 [.sl false [] true,src]=some (.sl false [] true,.pat rd []):=by
 simp[pJ,hs,nJ]
theorem YZ{H:Hp}{K K1 e1:Nat}{es:List Int}(hg:H.get K1=some (e1,.blk (es.map aH) 1 false false false))(hk:K1≠K){src:AV}{xs:List Int}{rd:List Nat}(hs:bH H 1 false src=some (xs.map aH,xs.length,rd))(hx:xs≠[])
  (hl:es.length+xs.length<=1073741824) {n:Nat} (hn:n=es.length) :
  pJ H K 1 false 8 [.rf K1 e1 0 n n,src]=some (.rf K (H.next K) 0 (es.length+xs.length) (es.length+xs.length),.pat (K::K1::rd) [⟨K1,e1,.dead⟩,⟨K,H.next K,.blk ((es++xs).map aH) 1 false false false⟩]):=by
 have hx0:xs.length≠0:=by simpa using hx
 subst hn;have h2:(K1==K)=false:=by simpa using hk
 simp only[pJ,hs,nJ,hg,hx0,aL,true_and,bF,Nat.mul_one];rw[if_pos (by simp),if_neg (by omega)];simp only[hl,decide_true,cE,h2,Bool.not_false,bR,aL,show (8:Nat)<=65536 from by decide,aN];have ht:List.take es.length (List.map aH es)=List.map aH es:=by rw[List.take_of_length_le (by simp)]
 simp[ht]
theorem UN{H:Hp}{K K1 e1:Nat}{es:List Int}(hg:H.get K1=some (e1,.blk (es.map aH) 1 false false false)){src:AV}{rd:List Nat}(hs:bH H 1 false src=some ([],0,rd)){n:Nat}(hn:n=es.length) :
  pJ H K 1 false 8 [.rf K1 e1 0 n n,src]=some (.rf K1 e1 0 n n,.pat (K1::rd) []):=by
 subst hn;simp only[pJ,hs,nJ,hg];rw[if_pos (by simp)];simp
attribute [local go_sem] Nat.left_eq_add Nat.add_eq_left
theorem aQD{f:Nat}(hf:pg.fs f=some CB)(kb:Nat)(h:Hp)(k1 e:Nat)(l:List Int)(hb:l.length<big)(x:Int)(hg:h.get k1=some (e,.blk (l.map aH) 1 false false false))
  (n1:(k1=kb+1)=False) (n5:(k1=kb+5)=False) (n9:(k1=kb+9)=False) (hne:l≠[]) :
  jK pg f [.rf k1 e 0 l.length l.length,.int .i64 x] kb h (aFr kb h k1 (iT x l)):=by
 have n1':(kb+1=k1)=False:=by rw[<-n1];exact propext eq_comm
 have n5':(kb+5=k1)=False:=by rw[<-n5];exact propext eq_comm
 have n9':(kb+9=k1)=False:=by rw[<-n9];exact propext eq_comm
 refine jK.ofX hf ?_;unfold CB;simp only[big]at hb;refine Wk ?_;refine aJ l (λd r env hp=>env=CA (.rf k1 e 0 l.length l.length) (.int .i64 x) (.int .i64 d.length)/\hp=h/\∀y∈d,y<x) ?_ ?_ ?_;exact⟨rfl,rfl,by simp⟩;rintro env hp ⟨rfl,rfl,hI⟩;have s2:∀H,bH H 1 false (.sl false [.int .i64 x] true)=some ([x].map aH,[x].length,[]):=λH=>IL [x];have s0:∀H,bH H 1 false (.sl false [] false)=some ([],0,[]):=λH=>IL [];have hl':l=l++[]:=by simp
 have hres:iT x l=l++[x]:=by have:=FS l [] hI;rwa [List.append_nil]at this
 have hd0:l≠[]:=hne;have hlo:=KZ (H:=hp) hg (m:=(l).length) (n:=l.length) (by omega) rfl;simp only[wT,CA,↓hlo,go_sem,seval];have s1:=PH (off:=0) (m:=(l).length) (cap:=l.length) (xs:=l) hg (by omega) (by rw[hl'];simp);rw[jW,GH s1 hd0 (by omega)];simp only[n1,n5,n9,n1',n5',n9',go_sem,seval];rw[jW,YZ (es:=l) (xs:=[x]) (by rw[aI,if_pos rfl]) (by omega) (s2 _) (by simp) (by simp;omega) rfl];have hhi:∀H:Hp,H.get k1=hp.get k1->iZ H 1 true false false [.rf k1 e 0 l.length l.length,.int .i64 (l.length:Int)]=some (.sl false [] false,.pat [k1] []):=λH h=>aBq (h.trans hg) (by simpa using hne);simp only[n1,n5,n9,n1',n5',n9',hg,↓hhi,go_sem,seval];rw[jW,UN (es:=l++[x]) (by rw[aI,if_pos rfl]) (s0 _) (by simp)];simp only[n1,n5,n9,n1',n5',n9',go_sem,seval];refine⟨by simp[i7,kC,R.apart,R.uses,X.tmp,Eff.apart,B7,n1,n5,n9,n1',n5',n9',Nat.testBit],?_⟩;rw[hres];refine⟨kb+5,BN (by simp only[aI,aN,Nat.reduceEqDiff,Nat.left_eq_add,Nat.add_eq_left,aL,fW,lH,List.singleton_append,List.cons_append]) (by simp),by simp,?_⟩;intro k q1 q5 q9;simp only[aI,Ne.symm q1,Ne.symm q5,Ne.symm q9,aL];rintro d y r env hp hes ⟨rfl,rfl,hI⟩;have hb':(d++y::r).length<16777216:=by rw[<-hes];exact hb
 have hb2:(d++y::r).length<=big:=by simp only[big];omega
 have hw:=aZ hb2;have hget:l[d.length]?=some y:=by rw[hes];simp
 have hlt:d.length<l.length:=by rw[hes];simp
 have e1:decide ((d.length:Int)<(l.length:Int))=true:=by simp;omega
 have e2:((d.length:Int)<(l.length:Int))=True:=aK (by omega);cases hyx:decide (y<x)
 case true=>simp only[wT,CA,e1,e2,hg,Nat.mul_one,bF,hget,hyx,hw,go_sem,seval];refine⟨rfl,?_⟩;intro z hz;rw[jM,List.mem_singleton]at hz;rcases hz with hz|rfl;exact hI z hz;simpa using hyx
 case false=>
  have hp2:=FS d (y::r) hI;rw[<-hes]at hp2;have hp3:iT x (y::r)=if decide (y=x) then y::r else x::y::r:=by rw[iT,hyx];rfl
  cases hye:decide (y=x)
  case true=>
   have hres:iT x l=l:=by rw[hp2,hp3,hye,hes];rfl
   simp only[wT,CA,e1,e2,hg,Nat.mul_one,bF,hget,hyx,hye,go_sem,seval];rw[hres];exact⟨k1,BN hg rfl,.inl rfl,λ_ _ _ _=>rfl⟩
  case false=>
   have hres:iT x l=d++x::y::r:=by rw[hp2,hp3,hye];rfl
   have hl':l=d++(y::r):=hes;have s2:∀H,bH H 1 false (.sl false [.int .i64 x] true)=some ([x].map aH,[x].length,[]):=λH=>IL [x];have s0:∀H,bH H 1 false (.sl false [] false)=some ([],0,[]):=λH=>IL [];have hll:l.length=d.length+(r.length+1):=by rw[hes];simp
   rcases mO d with hdn|⟨d1,d2,hdc⟩
   subst hdn;have e1:decide ((0:Int)<(l.length:Int))=true:=by simp;omega
   have e2:((0:Int)<(l.length:Int))=True:=aK (by omega);have hget:l[0]?=some y:=by rw[hes];simp
   have hlo:iZ hp 1 false true false [.rf k1 e 0 l.length l.length,.int .i64 0]=some (.rf k1 e 0 0 l.length,.pat [k1] []):=KZ (H:=hp) hg (m:=0) (n:=l.length) (by omega) rfl;simp only[wT,CA,e1,e2,hg,Nat.mul_one,bF,hget,hyx,hye,↓hlo,go_sem,seval];have s1:=PH (off:=0) (m:=0) (cap:=l.length) (xs:=[]) hg (by omega) (by simp);rw[jW,UO s1];simp only[n1,n5,n9,n1',n5',n9',go_sem,seval];rw[jW,GH (xs:=[x]) (s2 _) (by simp) (by simp)];have hhi:∀H:Hp,H.get k1=hp.get k1->iZ H 1 true false false [.rf k1 e 0 l.length l.length,.int .i64 0]=some (.rf k1 e 0 (l.length-0) (l.length-0),.pat [k1] []):=λH h=>YB (h.trans hg) (by omega);simp only[n1,n5,n9,n1',n5',n9',hg,↓hhi,go_sem,seval];have s3:∀H:Hp,H.get k1=hp.get k1->bH H 1 false (.rf k1 e 0 (l.length-0) (l.length-0))=some (((y::r)).map aH,((y::r)).length,[k1]):=λH h=>PH (h.trans hg) (by omega) (by rw[hl'];simp);rw[jW,YZ (es:=[x]) (xs:=(y::r)) (by rw[aI,if_pos rfl];rfl) (by omega) (s3 _ (by simp only[aI,n1',n5',n9',aL])) (by simp) (by simp;omega) (by simp)];simp only[n1,n5,n9,n1',n5',n9',go_sem,seval];refine⟨by simp[i7,kC,R.apart,R.uses,X.tmp,Eff.apart,B7,n1,n5,n9,n1',n5',n9',Nat.testBit],?_⟩;rw[hres];refine⟨kb+9,BN (by simp only[aI,aN,Nat.reduceEqDiff,Nat.left_eq_add,Nat.add_eq_left,aL,fW,lH,List.singleton_append,List.cons_append];rfl) (by simp;omega),by simp,?_⟩;intro k q1 q5 q9;simp only[aI,Ne.symm q1,Ne.symm q5,Ne.symm q9,aL];have hd0:d≠[]:=by rw[hdc];simp
   have hlo:=KZ (H:=hp) hg (m:=(d).length) (n:=l.length) (by omega) rfl;simp only[wT,CA,e1,e2,hg,Nat.mul_one,bF,hget,hyx,hye,↓hlo,go_sem,seval];have s1:=PH (off:=0) (m:=(d).length) (cap:=l.length) (xs:=d) hg (by omega) (by rw[hl'];simp);rw[jW,GH s1 hd0 (by omega)];simp only[n1,n5,n9,n1',n5',n9',go_sem,seval];rw[jW,YZ (es:=d) (xs:=[x]) (by rw[aI,if_pos rfl]) (by omega) (s2 _) (by simp) (by simp;omega) rfl];have hhi:∀H:Hp,H.get k1=hp.get k1->iZ H 1 true false false [.rf k1 e 0 l.length l.length,.int .i64 ((((d).length):Nat):Int)]=some (.rf k1 e (d).length (l.length-(d).length) (l.length-(d).length),.pat [k1] []):=λH h=>YB (h.trans hg) (by omega);simp only[n1,n5,n9,n1',n5',n9',hg,↓hhi,go_sem,seval];have s3:∀H:Hp,H.get k1=hp.get k1->bH H 1 false (.rf k1 e (d).length (l.length-(d).length) (l.length-(d).length))=some (((y::r)).map aH,((y::r)).length,[k1]):=λH h=>PH (h.trans hg) (by omega) (by rw[hl'];simp);rw[jW,YZ (es:=d++[x]) (xs:=(y::r)) (by rw[aI,if_pos rfl]) (by omega) (s3 _ (by simp only[aI,n1',n5',n9',aL])) (by simp) (by simp;omega) (by simp)];simp only[n1,n5,n9,n1',n5',n9',go_sem,seval];refine⟨by simp[i7,kC,R.apart,R.uses,X.tmp,Eff.apart,B7,n1,n5,n9,n1',n5',n9',Nat.testBit],?_⟩;rw[hres];refine⟨kb+9,BN (by simp only[aI,aN,Nat.reduceEqDiff,Nat.left_eq_add,Nat.add_eq_left,aL,fW,lH,List.singleton_append,List.cons_append]) (by simp;omega),by simp,?_⟩;intro k q1 q5 q9;simp only[aI,Ne.symm q1,Ne.symm q5,Ne.symm q9,aL]
theorem aQC{f:Nat}(hf:pg.fs f=some CB)(kb:Nat)(h:Hp)(k1:Nat)(nl cl:Bool)(x:Int) :
  jK pg f [.sl nl [] cl,.int .i64 x] kb h (aFr kb h k1 [x]):=by
 have s2:∀H,bH H 1 false (.sl false [.int .i64 x] true)=some ([x].map aH,[x].length,[]):=λH=>IL [x];have s0:∀H nl cl,bH H 1 false (.sl nl [] cl)=some ([],0,[]):=λH nl cl=>by simp[bH,cK]
 obtain⟨c1,q1⟩:=aFe nl cl [] [];obtain⟨c2,q2⟩:=aBr nl cl [] [];simp only[List.append_nil,List.map_nil,List.length_nil,Int.natCast_zero]at q1 q2;refine jK.ofX hf ?_;unfold CB;refine Wk ?_;rw[pW];simp only[wT,VV,Tev.clear,↓q1,go_sem,seval];rw[jW,UO (s0 _ _ _)];refine Wk ?_;rw[jW,GH (xs:=[x]) (s2 _) (by simp) (by simp)];simp only[↓q2,go_sem,seval];rw[jW,UN (es:=[x]) (by rw[aI,if_pos rfl];rfl) (s0 _ _ _) (by simp)];refine Wk ?_;refine⟨by simp[i7,kC,R.apart,R.uses,X.tmp,Eff.apart,B7,Nat.testBit],?_⟩;refine⟨kb+5,BN (l:=[x]) (by rw[aI,if_pos rfl];rfl) rfl,by simp,?_⟩;intro k q1 q5 q9;simp only[aI,Ne.symm q5,aL]
theorem aQE{f:Nat}(hf:pg.fs f=some CB)(kb:Nat)(h:Hp)(k1 e:Nat)(x:Int)(hg:h.get k1=some (e,.blk [] 1 false false false))
  (n1:(k1=kb+1)=False) (n5:(k1=kb+5)=False) (n9:(k1=kb+9)=False) :
  jK pg f [.rf k1 e 0 0 0,.int .i64 x] kb h (aFr kb h k1 [x]):=by
 have n1':(kb+1=k1)=False:=by rw[<-n1];exact propext eq_comm
 have n5':(kb+5=k1)=False:=by rw[<-n5];exact propext eq_comm
 have n9':(kb+9=k1)=False:=by rw[<-n9];exact propext eq_comm
 have s2:∀H,bH H 1 false (.sl false [.int .i64 x] true)=some ([x].map aH,[x].length,[]):=λH=>IL [x];have s0:∀H:Hp,H.get k1=h.get k1->bH H 1 false (.rf k1 e 0 0 0)=some ([],0,[k1]):=λH hh=>by simp[bH,hh,hg,cX]
 have q1:∀H:Hp,H.get k1=h.get k1->iZ H 1 false true false [.rf k1 e 0 0 0,.int .i64 0]=some (.rf k1 e 0 0 0,.pat [k1] []):=λH hh=>by simp[iZ,kX,j1,hh,hg]
 have q2:∀H:Hp,H.get k1=h.get k1->iZ H 1 true false false [.rf k1 e 0 0 0,.int .i64 0]=some (.rf k1 e 0 0 0,.pat [k1] []):=λH hh=>by simp[iZ,kX,j1,hh,hg]
 refine jK.ofX hf ?_;unfold CB;refine Wk ?_;rw[pW];simp only[wT,VV,Tev.clear,↓q1,go_sem,seval];rw[jW,UO (s0 _ rfl)];refine Wk ?_;rw[jW,GH (xs:=[x]) (s2 _) (by simp) (by simp)];simp only[n1,n5,n9,n1',n5',n9',↓q2,go_sem,seval];rw[jW,UN (es:=[x]) (by rw[aI,if_pos rfl];rfl) (s0 _ (by simp only[aI,n1',n5',n9',aL])) (by simp)];refine Wk ?_;refine⟨by simp[i7,kC,R.apart,R.uses,X.tmp,Eff.apart,B7,Nat.testBit,n1,n5,n9,n1',n5',n9'],?_⟩;refine⟨kb+5,BN (l:=[x]) (by rw[aI,if_pos rfl];rfl) rfl,by simp,?_⟩;intro k q1 q5 q9;simp only[aI,Ne.symm q5,aL]
theorem aQB{f:Nat}(hf:pg.fs f=some CB){kb:Nat}{h:Hp}{k1:Nat}{v:AV}{l:List Int}(o:Own h k1 1 false v (l.map aH))(hb:l.length<big)(x:Int)(n1:k1≠kb+1)(n5:k1≠kb+5)(n9:k1≠kb+9) :
  jK pg f [v,.int .i64 x] kb h (aFr kb h k1 (iT x l)):=by
 rcases o with ⟨he,nl,cl,rfl,_⟩|⟨e,cs,rfl,hg,hu⟩
 have:l=[]:=by simpa using he
 subst this;exact aQC hf kb h k1 nl cl x;rw[iU]at hu;cases hu;by_cases hl:l=[]
 subst hl;exact aQE hf kb h k1 e x hg (eq_false n1) (eq_false n5) (eq_false n9);have:=aQD hf kb h k1 e l hb x hg (eq_false n1) (eq_false n5) (eq_false n9) hl;simpa using this
end
end
section
def j9(acc l:List Int):List Int:=l.foldl (λa x=>iT x a) acc
mutual
def bX:aC->List Int
 |.mk op _ value _ _ _ _ _ _ aSj _=>eV (if decide (op.bs=[114,101,97,100]) then iT value [] else []) aSj
def eV:List Int->List aC->List Int
 |acc,[]=>acc
 |acc,p::r=>eV (j9 acc (bX p)) r
end
theorem BL(p:aC):bX p=eV (if decide (p.op.bs=[114,101,97,100]) then iT p.value [] else []) p.aSj:=by cases p;rw[bX];rfl
theorem nW:∀(l acc:List Int),(j9 acc l).length<=acc.length+l.length
 |[],acc=>by simp[j9]
 |x::r,acc=>by have h1:=nW r (iT x acc);have h2:=FR x acc;simp only[j9,List.foldl_cons,List.length_cons]at *;omega
theorem yS(acc d:List Int)(x:Int):j9 acc (d++[x])=iT x (j9 acc d):=by simp[j9]
theorem xG{a:Int}:∀(l acc:List Int),a∈j9 acc l↔a∈acc\/a∈l
 |[],acc=>by simp[j9]
 |x::r,acc=>by have h1:=xG (a:=a) r (iT x acc);simp only[j9,List.foldl_cons]at *;rw[h1,zX,dA];constructor;rintro((h|h)|h)<;>simp[h];rintro(h|h|h)<;>simp[h]
theorem tT:∀(d:List aC)(acc:List Int)(x:aC),eV acc (d++[x])=j9 (eV acc d) (bX x)
 |[],acc,x=>by simp[eV]
 |y::d,acc,x=>by simp only[List.cons_append,eV];exact tT d _ x
mutual
theorem kP:∀p:aC,(bX p).length<=p.sz
 |.mk op _ value _ _ _ _ _ _ aSj _=>by have h:=rD aSj (if decide (op.bs=[114,101,97,100]) then iT value [] else []);rw[bX,aC.sz];split at h<;>simp_all [iT]<;>omega
theorem rD:∀(l:List aC)(acc:List Int),(eV acc l).length<=acc.length+aC.szL l
 |[],acc=>by simp[eV]
 |p::r,acc=>by have h1:=kP p;have h2:=rD r (j9 acc (bX p));have h3:=nW (bX p) acc;simp only[eV,aC.szL]at *;omega
end
mutual
theorem kQ(a:Int):∀p:aC,a∈bX p↔a∈fK p
 |.mk op _ value _ _ _ _ _ _ aSj _=>by have h:=C3 a aSj (if decide (op.bs=[114,101,97,100]) then iT value [] else []);rw[bX,fK,h,jM];cases decide (op.bs=[114,101,97,100])<;>simp[iT]
theorem C3(a:Int):∀(l:List aC)(acc:List Int),a∈eV acc l↔a∈acc\/a∈jP l
 |[],acc=>by simp[eV,jP]
 |p::r,acc=>by have h1:=kQ a p;have h2:=C3 a r (j9 acc (bX p));rw[eV,h2,xG,h1,jP,jM,or_assoc]
end
def jY(q:aG):List Int:=
 if decide (q.kind=3) then
  (let l:=j9 (bX q.body) (bX q.index)
   if decide (q.source=q.value) then l else iT q.source l)
 else bX q.body
section
variable{pg:Pg}
theorem X0(s:Nat)(v:AV)(x:Int):∃B,jU 0 s [v,.int .i64 x]=B/\65536<=B/\∀k e o l c,v = .rf k e o l c->k≠B+1/\k≠B+5/\k≠B+9:=by refine⟨_,rfl,?_,?_⟩;simp only[jU];split<;>omega;rintro k e o l c rfl;simp only[jU,List.any_cons,List.any_nil,Bool.or_false];split;rename_i h;simp only[aF,aR]at h;omega;rename_i h;simp only[aF,aR,not_and]at h;omega
theorem HP{f s:Nat}{h:Hp}{k1:Nat}{v:AV}{l:List Int}{x:Int}{Q:AV->Eff->Prop}{t:Tok Q}(hf:pg.fs f=some CB)(o:Own h k1 1 false v (l.map aH))(hb:l.length<big)
  (q:∀r h' k2,Own h' k2 1 false r ((iT x l).map aH)->(∀k,k<65536->h'.get k=h.get k)->Q r (.whole h')):XO pg 0 (.call f false true) s h [v,.int .i64 x] Q t:=by
 obtain⟨B,hB,hB1,hB2⟩:=X0 s v x;have key:∃k1,Own h k1 1 false v (l.map aH)/\k1≠B+1/\k1≠B+5/\k1≠B+9:=by
  rcases o with ⟨he,nl,cl,rfl,hc⟩|⟨e,cs,rfl,hg,hu⟩
  exact⟨B,.inl ⟨he,nl,cl,rfl,hc⟩,by omega,by omega,by omega⟩;exact⟨k1,.inr ⟨e,cs,rfl,hg,hu⟩,hB2 _ _ _ _ _ rfl⟩
 obtain⟨k1',o',a1,a5,a9⟩:=key;refine CM (.inl rfl) hB (aQB hf o' hb x a1 a5 a9) ?_;rintro r h' ⟨k2,p1,_,p3⟩;exact q r h' k2 p1 (λk hk=>p3 k (by omega) (by omega) (by omega))
theorem c37(hf:pg.fs 37=some aDR)(h55:pg.fs 55=some CB):∀p:aC,p.ok->p.sz<=big->bQ pg 37 [p.av] (pA 1 false ((bX p).map aH)):=by
 refine aC.ind' λp ih hp hsz=>?_;obtain⟨hb,hk⟩:=(aC.ok_iff p).1 hp;have hz:=aC.sz_eq p;refine bQ.ofX hf ?_;unfold aDR;refine Wk ?_;cases hr:decide (p.op.bs=[114,101,97,100])
 case true=>
  refine Wk ?_;refine HP (l:=[]) h55 (Own.nil _ 0 _ _ _ _ rfl) (by decide) ?_;intro v H k1 ho hun;refine Wk ?_;have hres:bX p=eV (iT p.value []) p.aSj:=by rw[BL,hr];rfl
  refine aJ p.aSj (λd r env hp=>∃v k1,env=CC (.pt 1 0 0) v (.int .i64 d.length)/\Own hp k1 1 false v ((eV (iT p.value []) d).map aH)/\hp.get 1=some (0,.blk (vT p p.aSj) 9 true true false)) ?_ ?_ ?_;exact⟨v,k1,rfl,ho,(hun 1 (by decide)).trans (by simp only[go_sem,seval];rfl)⟩;rintro env hp ⟨v,k1,rfl,ho,h1⟩;simp only[vT]at h1;simp only[G4,CC,h1,go_sem,seval];rw[hres];exact ho.conv (El.ints _);rintro d x r env hp hes ⟨v,k1,rfl,ho,h1⟩;have hxm:x∈p.aSj:=by rw[hes];simp
  have hxs:x.sz<=big:=by have:=aC.szL_mem hxm;omega
  have hx:=ih x hxm (hk x hxm) hxs;have hx':=hx;rw[aC.avc]at hx';have hl1:=rD d (iT p.value []);have hl2:=kP x;have hst:(iT p.value []:List Int).length<=1:=by simp[iT]
  have hzz:aC.szL p.aSj=aC.szL d+(x.sz+aC.szL r):=by rw[hes,aC.szL_append,aC.szL]
  rw[hes]at h1 hb;rw[hes];have h0:=h1;simp only[vT]at h1;have hsno:=tT d (iT p.value []) x;have hw:=aZ hb;clear ih hk;simp only[G4,CC,h1,go_sem,seval]
  first|refine mN hx (by simp only[go_sem,seval]) ?_|refine mN hx' (by simp only[go_sem,seval]) ?_
  intro nl1 cl1 _;refine Wk ?_;refine aJ (bX x) (λd2 r2 env hp=>∃v k1,env=CD (.pt 1 0 0) v (.int .i64 d.length) (.sl nl1 ((bX x).map aH) cl1) (.int .i64 d2.length)/\Own hp k1 1 false v ((j9 (eV (iT p.value []) d) d2).map aH)/\hp.get 1=some (0,.blk (vT p (d++x::r)) 9 true true false)) ?_ ?_ ?_;exact⟨v,k1,rfl,ho.mono (by simp only[go_sem,seval]),by simp only[go_sem,seval];exact h0⟩;clear ho h1 h0 hp;rintro env hp ⟨v,k1,rfl,ho,h0⟩;simp only[G5,CD,hw,go_sem,seval];rw[hsno];exact⟨v,k1,rfl,ho,h0⟩;clear ho h1 h0 hp;rintro d2 y r2 env hp hes2 ⟨v,k1,rfl,ho,h0⟩;have hd2:d2.length<(bX x).length:=by rw[hes2];simp
  have hget:(bX x)[d2.length]?=some y:=by rw[hes2];simp
  have hpl:=nW d2 (eV (iT p.value []) d);have hbb:(j9 (eV (iT p.value []) d) d2).length<big:=by omega
  have f1:decide ((d2.length:Int)<((bX x).length:Int))=true:=by simp;omega
  have f2:((d2.length:Int)<((bX x).length:Int))=True:=aK (by omega);have hw2:wr .i64 ((d2.length:Int)+1)=((d2++[y]).length:Int):=aZ (r:=r2) (by rw[<-hes2];omega);have hsn2:=yS (eV (iT p.value []) d) d2 y;simp only[G5,CD,f1,f2,hget,go_sem,seval];refine HP h55 ho hbb ?_;intro r' h' k2 ho' hun;simp only[hw2,go_sem,seval];rw[hsn2];exact⟨r',k2,rfl,ho',(hun 1 (by decide)).trans h0⟩
 case false=>
  refine Wk ?_;have hres:bX p=eV ([]) p.aSj:=by rw[BL,hr];rfl
  refine aJ p.aSj (λd r env hp=>∃v k1,env=CC (.pt 1 0 0) v (.int .i64 d.length)/\Own hp k1 1 false v ((eV ([]) d).map aH)/\hp.get 1=some (0,.blk (vT p p.aSj) 9 true true false)) ?_ ?_ ?_;exact⟨_,0,rfl,Own.nil _ _ _ _ _ _ rfl,by simp only[go_sem,seval];rfl⟩;rintro env hp ⟨v,k1,rfl,ho,h1⟩;simp only[vT]at h1;simp only[G4,CC,h1,go_sem,seval];rw[hres];exact ho.conv (El.ints _);rintro d x r env hp hes ⟨v,k1,rfl,ho,h1⟩;have hxm:x∈p.aSj:=by rw[hes];simp
  have hxs:x.sz<=big:=by have:=aC.szL_mem hxm;omega
  have hx:=ih x hxm (hk x hxm) hxs;have hx':=hx;rw[aC.avc]at hx';have hl1:=rD d ([]);have hl2:=kP x;have hst:([]:List Int).length<=1:=by simp[iT]
  have hzz:aC.szL p.aSj=aC.szL d+(x.sz+aC.szL r):=by rw[hes,aC.szL_append,aC.szL]
  rw[hes]at h1 hb;rw[hes];have h0:=h1;simp only[vT]at h1;have hsno:=tT d ([]) x;have hw:=aZ hb;clear ih hk;simp only[G4,CC,h1,go_sem,seval]
  first|refine mN hx (by simp only[go_sem,seval]) ?_|refine mN hx' (by simp only[go_sem,seval]) ?_
  intro nl1 cl1 _;refine Wk ?_;refine aJ (bX x) (λd2 r2 env hp=>∃v k1,env=CD (.pt 1 0 0) v (.int .i64 d.length) (.sl nl1 ((bX x).map aH) cl1) (.int .i64 d2.length)/\Own hp k1 1 false v ((j9 (eV ([]) d) d2).map aH)/\hp.get 1=some (0,.blk (vT p (d++x::r)) 9 true true false)) ?_ ?_ ?_;exact⟨v,k1,rfl,ho.mono (by simp only[go_sem,seval]),by simp only[go_sem,seval];exact h0⟩;clear ho h1 h0 hp;rintro env hp ⟨v,k1,rfl,ho,h0⟩;simp only[G5,CD,hw,go_sem,seval];rw[hsno];exact⟨v,k1,rfl,ho,h0⟩;clear ho h1 h0 hp;rintro d2 y r2 env hp hes2 ⟨v,k1,rfl,ho,h0⟩;have hd2:d2.length<(bX x).length:=by rw[hes2];simp
  have hget:(bX x)[d2.length]?=some y:=by rw[hes2];simp
  have hpl:=nW d2 (eV ([]) d);have hbb:(j9 (eV ([]) d) d2).length<big:=by omega
  have f1:decide ((d2.length:Int)<((bX x).length:Int))=true:=by simp;omega
  have f2:((d2.length:Int)<((bX x).length:Int))=True:=aK (by omega);have hw2:wr .i64 ((d2.length:Int)+1)=((d2++[y]).length:Int):=aZ (r:=r2) (by rw[<-hes2];omega);have hsn2:=yS (eV ([]) d) d2 y;simp only[G5,CD,f1,f2,hget,go_sem,seval];refine HP h55 ho hbb ?_;intro r' h' k2 ho' hun;simp only[hw2,go_sem,seval];rw[hsn2];exact⟨r',k2,rfl,ho',(hun 1 (by decide)).trans h0⟩
end
end
end Go.Tev
