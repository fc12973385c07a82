import Derived.Test.YtmcadllokkmeiaaGreatDoorCAS
import Derived.Test.YtmcadllokkmeiaaGreatDoorCAH
import Derived.Test.YtmcadllokkmeiaaGreatDoorCAM
set_option linter.all false
namespace Go.Tev
section
def d9(q:aH):List Int:=cE q.body++if decide (q.kind=3) then cE q.index++[q.source] else []
theorem lA(p:aC):(cE p).length<=p.sz:=by have e1:=rJ (kJ (eQ p));have e2:=mN (eQ p);have e3:=rT p;simp only[cE];omega
section
variable{pg:Pg}{kb:Nat}
theorem LE{esz bytes s k1:Nat}{ag:Bool}{h:Hp}{v:AV}{es xs:List AV}{nl cl:Bool}{Q:AV->Eff->Prop}{t:Tok Q}(o:Own h k1 esz ag v es)(hk1:k1≠kb+s)(he:∀x∈es,El esz ag x)(hx:∀x∈xs,El esz ag x)
  (hl:es.length+xs.length<=1073741824) (hb:bytes<=65536)
  (q1:xs=[]->∀rd,(rd=[]\/rd=[k1])->Q v (.pat rd []))
  (q2:xs≠[]->∀v' rd pa,Own (Eff.app h (.pat rd pa)) (kb+s) esz ag v' (es++xs)->(∀k,k≠kb+s->k≠k1->(Eff.app h (.pat rd pa)).get k=h.get k) ->
   ((∃e ob,rd=[kb+s]/\pa=[⟨kb+s,e,ob⟩])\/(∃e1 o1 e ob,rd=[kb+s,k1]/\pa=[⟨k1,e1,o1⟩,⟨kb+s,e,ob⟩]))->Q v' (.pat rd pa)) :
  XO pg kb (.app esz ag bytes) s h [v,.sl nl xs cl] Q t:=by
 rw[iQ];obtain⟨ds,d1,d2,d3,_⟩:=dQ hx;simp only[nY,bB,d1,Option.map_some];by_cases hxs:xs=[]
 subst hxs;cases d1;rcases o with ⟨rfl,nl',cl',rfl,hc⟩|⟨e,cs,rfl,hg,hu⟩
 simp only[mD,List.length_nil,if_true];exact q1 rfl _ (.inl rfl);obtain⟨cs',c1,c2,_,_⟩:=dQ he;rw[hu]at c1;cases c1;simp only[mD,hg,List.length_nil,if_true,true_and,Nat.zero_add];rw[if_pos (by omega)];exact q1 rfl _ (.inr rfl);have hn:xs.length≠0:=by simpa using hxs
 rcases o with ⟨rfl,nl',cl',rfl,hc⟩|⟨e,cs,rfl,hg,hu⟩
 simp only[mD,hn,if_false,hc,List.length_nil,Nat.zero_add,Bool.true_and];have hlx:xs.length<=1073741824:=by simpa using hl
 simp only[hlx,hb,decide_true,Bool.and_self,if_true,bV,List.nil_append];refine q2 hxs _ _ _ (.inr ⟨_,ds,rfl,?_,by simpa using d1⟩) ?_ (.inl ⟨_,_,rfl,rfl⟩);rw[mC,aD,if_pos rfl];intro k hk _;rw[mC,aD,if_neg (Ne.symm hk)];obtain⟨cs',c1,c2,_,_⟩:=dQ he;rw[hu]at c1;cases c1;have h1:¬(es.length+xs.length<=es.length):=by omega
 have h2:(k1==kb+s)=false:=by simpa using hk1
 simp only[mD,hg,hn,if_false,true_and,Nat.zero_add];rw[if_pos (by omega)];simp only[h1,if_false,hl,hb,decide_true,Bool.true_and,h2,Bool.not_false,if_true,Bool.false_eq_true];refine q2 hxs _ _ _ (.inr ⟨h.next (kb+s),cs++ds,by simp,?_,jU hu d1⟩) ?_ (.inr ⟨_,_,_,_,rfl,rfl⟩);rw[yV,aD,if_pos rfl];simp[<-c2];intro k hk hk2;rw[yV,aD,if_neg (Ne.symm hk),aD,if_neg (Ne.symm hk2)]
end
section
variable{pg:Pg}
theorem c30(S:VI pg)(hf:pg.fs 30=some aBp)(h48:pg.fs 48=some R9)(h74:pg.fs 74=some NM)(q:aH)(h1:q.body.ok)(h2:q.index.ok)(hsz:q.body.sz+q.index.sz+1<=big) :
  bE pg 30 [q.av] (nP 1 false ((d9 q).map aJ)):=by
 have a1:=c48 S h48 h74 q.body h1 (by omega);have a2:=c48 S h48 h74 q.index h2 (by omega);rw[aC.avc]at a1 a2;have l1:=lA q.body;have l2:=lA q.index;simp only[big]at hsz;refine bE.ofX hf ?_;unfold aBp;refine Wk ?_;refine AO a1 (by simp only[go_sem,seval]) (El.ints _) ?_;intro v rd pa ho hk _;have k1:=hk 1 (by omega);simp only[go_sem,seval]at k1;simp only[k1,go_sem,seval];cases h3:decide (q.kind=3);refine Wk ?_;have hr:d9 q=cE q.body:=by simp[d9,h3]
 rw[hr];exact ho.conv (El.ints _)
 ·simp only[k1,go_sem,seval];refine lQ a2 (by simp only[go_sem,seval]) ?_;intro nl2 cl2 _;refine Wk ?_;have hr:d9 q=cE q.body++(cE q.index++[q.source]):=by simp[d9,h3]
  rw[hr];have fin:∀(v2:AV)(kk:Nat)(H:Hp)(es:List Int),Own H kk 1 false v2 (es.map aJ)->es=cE q.body++(cE q.index++[q.source])->∃r,Tev.conv H v2=some r/\nP 1 false ((cE q.body++(cE q.index++[q.source])).map aJ) r:=by rintro v2 kk H es o rfl;exact o.conv (El.ints _)
  generalize hH:Eff.app _ (Eff.pat rd pa)=H at ho k1 ⊢;clear hH hk hr a1 a2;refine LE (kb:=0) (s:=13) (k1:=5) ho (by omega) (El.ints _) (El.ints _) (by simp only[aI];omega) (by decide) ?_ ?_
  ·intro hx rd1 hrd1;have hx':cE q.index=[]:=by simpa using hx
   have k2:=k1;simp only[k1,go_sem,seval];refine LE (kb:=0) (s:=17) (k1:=5) ho (by omega) (El.ints _) (xs:=[.int .i64 q.source]) (by intro y hy;simp at hy;subst hy;exact⟨rfl,rfl,rfl⟩) (by simp only[aI,List.length_singleton];omega) (by decide) (by intro h;cases h) ?_;intro _ v2 rd2 pa2 ho2 hk2 hform;have ho3:=fin _ 17 _ (cE q.body++[q.source]) (by simpa[xZ] using ho2) (by rw[hx'];simp);clear ho2 hk2 k2 k1 ho;rcases hrd1 with rfl|rfl<;>rcases hform with ⟨e,ob,rfl,rfl⟩|⟨e1,o1,e,ob,rfl,rfl⟩
   all_goals (simp only[go_sem,seval])
   all_goals (refine aQ ?_)
   all_goals (exact ho3)
  ·intro hx v1 rd1 pa1 ho1 hk1 hform1;have k2:=hk1 1 (by omega) (by omega);rw[k1]at k2;simp only[k2,go_sem,seval];refine LE (kb:=0) (s:=17) (k1:=13) ho1 (by omega) (by rw[<-List.map_append];exact El.ints _) (xs:=[.int .i64 q.source]) (by intro y hy;simp at hy;subst hy;exact⟨rfl,rfl,rfl⟩) (by simp only[aI,bX,List.length_singleton];omega) (by decide) (by intro h;cases h) ?_;intro _ v2 rd2 pa2 ho2 hk2 hform;have ho3:=fin _ 17 _ (cE q.body++cE q.index++[q.source]) (by simpa[xZ] using ho2) (by simp);clear ho2 hk2 ho1 hk1 k2 k1;rcases hform1 with ⟨e',ob',rfl,rfl⟩|⟨e1',o1',e',ob',rfl,rfl⟩<;>rcases hform with ⟨e,ob,rfl,rfl⟩|⟨e1,o1,e,ob,rfl,rfl⟩
   all_goals (simp only[go_sem,seval])
   all_goals (refine aQ ?_)
   all_goals (exact ho3)
end
end
section
abbrev Sp:=Int×Int
def bQ(s:Sp):AV:=.agg [.int .i64 s.1,.int .i64 s.2]
def bF:List Sp->List AV
 |[]=>[]
 |s::r => .int .i64 s.1 :: .int .i64 s.2::bF r
theorem fA:∀l,(bF l).length=l.length*2
 |[]=>rfl
 |s::r=>by simp only[bF,List.length_cons,fA r];omega
theorem rO:∀l,bV 2 true (l.map bQ)=some (bF l)
 |[]=>rfl
 |s::r=>by simp[bQ,bV,rO r,AV.fits,bF,AV.cells];rfl
theorem xD(l:List Sp):∀x∈l.map bQ,El 2 true x:=by intro x hx;obtain⟨b,_,rfl⟩:=List.mem_map.1 hx;exact⟨rfl,rfl,rfl⟩
theorem zG:∀(l:List Sp)(v:Nat)(s:Sp),l[v]?=some s->(bF l)[v*2]?=some (.int .i64 s.1)/\(bF l)[v*2+1]?=some (.int .i64 s.2)
 |[],v,s,h=>by simp at h
 |t::r,0,s,h=>by simp at h;subst h;exact⟨rfl,rfl⟩
 |t::r,v+1,s,h=>by have:=zG r v s (by simpa using h);rw[show (v+1)*2=v*2+1+1 from by omega];simpa[bF] using this
theorem AW:∀(l:List Sp)(v:Nat)(a b:Int),((bF l).set (v*2) (.int .i64 a)).set (v*2+1) (.int .i64 b)=bF (l.set v (a,b))
 |[],v,a,b=>by simp[bF]
 |t::r,0,a,b=>rfl
 |t::r,v+1,a,b=>by rw[show (v+1)*2=v*2+1+1 from by omega];simp only[bF,List.set_cons_succ];rw[AW r v a b]
theorem AX:∀(l:List Sp)(v:Nat)(a:Int),(bF l).set (v*2) (.int .i64 a)=bF (l.modify v (λs=>(a,s.2)))
 |[],v,a=>by simp[bF]
 |t::r,0,a=>rfl
 |t::r,v+1,a=>by rw[show (v+1)*2=v*2+1+1 from by omega];simp only[bF,List.set_cons_succ,List.modify_succ_cons];rw[AX r v a]
theorem AU:∀(l:List Sp)(v:Nat)(a:Int),(bF l).set (v*2+1) (.int .i64 a)=bF (l.modify v (λs=>(s.1,a)))
 |[],v,a=>by simp[bF]
 |t::r,0,a=>rfl
 |t::r,v+1,a=>by rw[show (v+1)*2=v*2+1+1 from by omega];simp only[bF,List.set_cons_succ,List.modify_succ_cons];rw[AU r v a]
theorem aCq{h:Hp}{e:Nat}{sp:List Sp}(hg:h.get 9=some (e,.blk (bF sp) 2 true false false))(d:Nat):Tev.snap (d+2) h (.rf 9 e 0 sp.length sp.length)=some (.sl false (sp.map bQ) false,[9]):=by obtain⟨cs',h1,h2,h3,h4⟩:=dQ (xD sp);rw[rO]at h1;cases h1;have h5:=h4 [];rw[List.append_nil,aI]at h5;have ht:treeL (sp.map bQ)=true:=bJ (f:=bQ) (λs=>by simp[bQ,go_sem]) sp;have h6:dA (Tev.snap (d+1) h) (sp.map bQ)=some (sp.map bQ,[]):=eZ d h ht;rw[eK];simp[hg,h5,h6,AV.tree]
def kA(sp:List Sp)(v:Int)(x:Int):List Sp:=sp.modify v.toNat (λs=>(s.1,x))
def iX(sp:List Sp)(v:Int)(x:Int):List Sp:=sp.modify v.toNat (λs=>(x,s.2))
def kG(sp:List Sp)(v:Int):Int:=match sp[v.toNat]? with|some s=>s.1|none=>0
def eD(V i:Nat):List Sp:=List.replicate i (-1,-1)++List.replicate (V-i) (-2,-2)
def eP(sp:List Sp)(i:Nat)(l:List Int):List Sp:=l.foldl (λs v=>kA s v i) sp
def nR(sp:List Sp)(i:Nat)(q:aH):List Sp:=
 eP (kA (if decide (kG sp q.value = -2) then iX sp q.value i else sp) q.value i) i (d9 q)
def iT:List Sp->Nat->List aH->List Sp
 |sp,_,[]=>sp
 |sp,i,q::r=>iT (nR sp i q) (i+1) r
def pT(sp:List Sp)(n:Nat)(l:List Int):List Sp:=l.foldl (λs v=>kA s v n) sp
def aF(k:aA):List Sp:=pT (iT (eD k.values.es.length k.inputs.toNat) 0 k.list.es) k.list.es.length k.results.es
theorem u7(sp:List Sp)(v x:Int):(kA sp v x).length=sp.length:=by simp[kA]
theorem tN(sp:List Sp)(v x:Int):(iX sp v x).length=sp.length:=by simp[iX]
theorem jW(i:Nat):∀(l:List Int)(sp:List Sp),(eP sp i l).length=sp.length
 |[],sp=>rfl
 |v::r,sp=>by simp only[eP,List.foldl_cons];exact(jW i r _).trans (u7 _ _ _)
theorem xC(sp:List Sp)(i:Nat)(d:List Int)(x:Int):eP sp i (d++[x])=kA (eP sp i d) x i:=by simp[eP]
theorem C7(sp:List Sp)(i:Nat)(q:aH):(nR sp i q).length=sp.length:=by simp only[nR,jW,u7];split<;>simp[tN]
theorem qV:∀(l:List aH)(sp:List Sp)(i:Nat),(iT sp i l).length=sp.length
 |[],sp,i=>rfl
 |q::r,sp,i=>by rw[iT,qV r,C7]
theorem wB:∀(d:List aH)(sp:List Sp)(i:Nat)(q:aH),iT sp i (d++[q])=nR (iT sp i d) (i+d.length) q
 |[],sp,i,q=>rfl
 |x::r,sp,i,q=>by simp only[List.cons_append,iT,wB r,List.length_cons];congr 1;omega
theorem mM{V i:Nat}(h:i<=V):(eD V i).length=V:=by simp[eD];omega
theorem PN{V i:Nat}(h:i<V):(eD V i).set i (-1,-1)=eD V (i+1):=by
 obtain⟨m,rfl⟩:∃m,V=i+(m+1):=⟨V-i-1,by omega⟩
 simp only[eD];rw[List.set_append_right _ _ (by simp)];have e1:i+(m+1)-i=m+1:=by omega
 have e2:i+(m+1)-(i+1)=m:=by omega
 rw[e1,e2,List.replicate_succ (n:=m),List.replicate_succ' (n:=i)];simp
theorem pX{k:aA}{th:List Bool}{p:aC}{n:Nat}{nt:Int}(h:fD k th p n nt=true):∀a∈cE p,0<=a/\a<k.values.es.length/\bK th a=true/\a≠nt:=by intro a ha;simp only[fD,iK,aG,fB]at h;have h2:=h.2;rw[List.any_eq_false]at h2;have h3:=h2 a ha;simp only[Bool.or_eq_true,fB,aY,not_or,Bool.not_eq_false]at h3;have ha':=ha;simp only[cE,mW,oP]at ha';obtain⟨h4,h5⟩:=pN _ p _ h.1.2 a ha';exact⟨h4,h5,h3.1,h3.2⟩
theorem uD{k:aA}{th:List Bool}{q:aH}{i:Nat}(h:cA k th q i=true):∀a∈d9 q,0<=a/\a<k.values.es.length/\bK th a=true:=by
 intro a ha;simp only[cA,aG]at h;obtain⟨_,h⟩:=h;split at h;cases h;rename_i t ht;simp only[aG,fB]at h;obtain⟨⟨⟨⟨_,_⟩,h3⟩,_⟩,h5⟩:=h;simp only[d9,nQ]at ha;simp only[vT]at h5;split at h5;rename_i h6;simp only[aG]at h5;have h7:decide (q.kind=3)=false:=by simp at h6 ⊢;omega
 rw[h7]at ha;rcases ha with ha|ha;obtain⟨x1,x2,x3,_⟩:=pX h5.2 a ha;exact⟨x1,x2,x3⟩;simp at ha;split at h5;rename_i h6;simp only[aG]at h5;have h7:decide (q.kind=3)=false:=by simp at h6 ⊢;omega
 rw[h7]at ha;rcases ha with ha|ha;obtain⟨x1,x2,x3,_⟩:=pX h5.2 a ha;exact⟨x1,x2,x3⟩;simp at ha;split at h5;rename_i h6;simp only[aG]at h5;rw[if_pos h6]at h3 ha;rcases ha with ha|ha;obtain⟨x1,x2,x3,_⟩:=pX h5.1 a ha;exact⟨x1,x2,x3⟩;rw[nQ]at ha;rcases ha with ha|ha;obtain⟨x1,x2,x3,_⟩:=pX h5.2 a ha;exact⟨x1,x2,x3⟩;simp only[List.mem_singleton]at ha;subst ha;simp only[xY,Bool.or_eq_false_iff,fL,Bool.not_eq_false']at h3;exact⟨by omega,by omega,h3.1.2⟩;cases h5
theorem F8{k:aA}:∀(l:List aH)(th:List Bool)(i:Nat),nS k th l i=none->∀d q r,l=d++q::r->cA k (bR th d) q (i+d.length)=true
 |[],th,i,_,d,q,r,he=>by cases d<;>simp at he
 |x::l,th,i,h,d,q,r,he=>by
  simp only[nS]at h;split at h;rename_i hx;cases d with
  |nil=>simp at he;obtain⟨rfl,rfl⟩:=he;exact hx
  |cons y d=>simp at he;obtain⟨rfl,rfl⟩:=he;have:=F8 _ _ _ h d q r rfl;rw[List.length_cons,show i+(d.length+1)=i+1+d.length from by omega];exact this
  cases h
structure lH(k:aA):Prop where
 out:bO k=true
 ker:∀d q r,k.list.es=d++q::r->cA k (bR (fX k) d) q d.length=true
 res:∀v∈k.results.es,0<=v/\v<k.values.es.length/\bK (bR (fX k) k.list.es) v=true
 one:0<k.results.es.length
theorem dS{k:aA}(h:(cP k).2=0):lH k:=by simp only[cP]at h;split at h;rename_i ho;split at h;simp at h;rename_i hr;split at h;simp at h;rename_i hb;simp only[eM,Bool.or_eq_true,not_or,Bool.not_eq_true,aY,fL,List.any_eq_false]at hb;obtain⟨⟨h1,h2⟩,h3⟩:=hb;refine⟨ho,λd q r he=>by simpa using F8 _ _ _ hr d q r he,λv hv=>?_,by omega⟩;have h4:=h3 v hv;simp only[dY,Bool.or_eq_false_iff,fL,Bool.not_eq_false',not_or,Bool.not_eq_true,Bool.or_eq_true,aY]at h4;obtain⟨⟨x1,x2⟩,x3⟩:=h4;exact⟨by omega,by omega,by simpa using x3⟩;simp at h
theorem jH{k:aA}:(cP k).2=0\/(cP k).2=22:=by simp only[cP];split;split;exact .inr rfl;split;exact .inr rfl;exact .inl rfl;exact .inr rfl
end
section
def kE(k:aA)(r:AV):Prop:=
 if (cP k).2=0 then r = .tup [.sl false ((aF k).map bQ) false,.int .i64 0] else r = .tup [.sl true [] true,.int .i64 22]
theorem aCs{l:List AV}{n:Nat}(x y:AV)(h:n*2+1<l.length):List.take (0+n*2) l++[x,y]++List.drop (0+n*2+2) l=(l.set (n*2) x).set (n*2+1) y:=by
 obtain⟨a,u,v,m,rfl,ha⟩:∃a u v m,l=a++u::v::m/\a.length=n*2:=by refine⟨l.take (n*2),l[n*2],l[n*2+1],l.drop (n*2+1+1),?_,by simp;omega⟩;rw[<-kY h,<-kY (by omega),List.take_append_drop]
 rw[Nat.zero_add,<-ha];simp[List.set_append]
theorem UC{l:List AV}{n:Nat}(x:AV)(h:n<l.length):List.take n l++[x]++List.drop (n+1) l=l.set n x:=by rw[List.set_eq_take_append_cons_drop,if_pos h];simp
theorem LO(sp:List Sp)(v x:Int)(h:v.toNat<sp.length):List.take (0+v.toNat*2+1) (bF sp)++[.int .i64 x]++List.drop (0+v.toNat*2+1+1) (bF sp)=bF (kA sp v x):=by rw[Nat.zero_add,UC _ (by rw[fA];omega),AU];rfl
theorem aCn(sp:List Sp)(v x:Int)(h:v.toNat<sp.length):List.take (0+v.toNat*2+0) (bF sp)++[.int .i64 x]++List.drop (0+v.toNat*2+0+1) (bF sp)=bF (iX sp v x):=by rw[Nat.zero_add,Nat.add_zero,UC _ (by rw[fA];omega),AX];rfl
theorem MS(sp:List Sp)(v:Int)(h:v.toNat<sp.length):(0+v.toNat*2+1+1<=(bF sp).length)=True:=eq_true (by rw[fA];omega)
theorem aCR(sp:List Sp)(v:Int)(h:v.toNat<sp.length):(0+v.toNat*2+0+1<=(bF sp).length)=True:=eq_true (by rw[fA];omega)
theorem aCS(sp:List Sp)(v:Int)(h:v.toNat<sp.length):(bF sp)[0+v.toNat*2+0]?=some (.int .i64 (kG sp v)):=by
 obtain⟨s,hs⟩:∃s,sp[v.toNat]?=some s:=⟨_,aX h⟩
 rw[Nat.zero_add,Nat.add_zero,(zG sp _ s hs).1];simp[kG,hs]
section
variable{pg:Pg}
theorem c9 (hf:pg.fs 9=some cf9) (h28:∀k:aA,(k.vars.nl=true->k.vars.es=[])->(∀q∈k.list.es,q.body.ok/\q.index.ok/\k.vars.es.length+9+q.body.sz<=big/\k.vars.es.length+9+q.index.sz<=big) ->
   Ret pg 28 [k.av] (.tup [.int .i64 (cP k).1,.int .i64 (cP k).2]))
  (h29:∀(nl cl:Bool)(a b:Int)(n:Nat),n<=big->bE pg 29 [.sl nl [.agg [.int .i64 a,.int .i64 b]] cl,.int .i64 n] (nP 2 true (List.replicate n (.agg [.int .i64 a,.int .i64 b]))))
  (h30:∀q:aH,q.body.ok->q.index.ok->q.body.sz+q.index.sz+1<=big->bE pg 30 [q.av] (nP 1 false ((d9 q).map aJ)))
  (k:aA) (hnl:k.vars.nl=true->k.vars.es=[]) (hq:∀q∈k.list.es,q.body.ok/\q.index.ok/\k.vars.es.length+9+q.body.sz<=big/\k.vars.es.length+9+q.index.sz<=big) (hq2:∀q∈k.list.es,q.body.sz+q.index.sz+1<=big) :
  bE pg 9 [k.av] (kE k):=by
 have a1:=h28 k hnl hq;have hVb:=k.values.ok;have a2:=h29 false true (-2) (-2) k.values.es.length hVb;clear h28 h29;refine bE.ofX hf ?_;unfold cf9;simp only[aA.av,aA.cells,go_sem,seval];refine bT a1 (by simp only[aA.av,aA.cells,go_sem,seval]) rfl ?_;rcases jH (k:=k) with hc|hc;have ok:=dS hc;have hso:=ok.out;simp only[bO,aG,aY]at hso;obtain⟨_,⟨⟨⟨⟨⟨⟨_,_⟩,hi0⟩,_⟩,hiV⟩,_⟩,_⟩,_⟩:=hso;have hV:0<k.values.es.length:=by obtain⟨v,hv⟩:=List.exists_mem_of_length_pos ok.one;have:=ok.res v hv;omega
 have hsp0:List.replicate k.values.es.length (AV.agg [.int .i64 (-2),.int .i64 (-2)])=(eD k.values.es.length 0).map bQ:=by simp[eD,bQ]
 have hl0:(eD k.values.es.length 0).length=k.values.es.length:=mM (Nat.zero_le _);rw[hsp0]at a2;rw[hc];refine Wk ?_;refine VD a2 (by simp only[go_sem,seval]) (xD _) (λhe=>?_) (λcs hcs _=>?_);have:=congrArg List.length he;rw[aI,hl0,List.length_nil]at this;omega;rw[rO]at hcs;cases hcs;rw[aI,hl0];generalize hE:Hp.next _ (0+9)=E;clear hE a1 a2;obtain⟨ins,hins⟩:∃n:Nat,k.inputs=n:=⟨k.inputs.toNat,by omega⟩
 have hinV:ins<=k.values.es.length:=by omega
 have hins':k.inputs.toNat=ins:=by omega
 refine Wk ?_
 refine aK (List.range ins) (λd r env hp=>env=aAB (.pt 1 0 0) (.rf 9 E 0 k.values.es.length k.values.es.length) (.int .i64 k.inputs) (.int .i64 d.length) /\
  hp.get 1=some (0,.blk k.cells 6 true true false)/\hp.get 9=some (E,.blk (bF (eD k.values.es.length d.length)) 2 true false false)) ?_ ?_ ?_
 refine⟨rfl,?_,?_⟩;refine Wk ?_;rfl;simp only[go_sem,seval];rintro env hp ⟨rfl,g1,g9⟩;have hr:(List.range ins).length=ins:=List.length_range;rw[hr]at g9 ⊢;have e1:decide ((ins:Int)<k.inputs)=false:=by simp;omega
 have g1':=g1;simp only[aA.cells,Sl.av]at g1;simp only[aAy,aAB,e1,g1,go_sem,seval]
 refine aK k.list.es (λd r env hp=>env=aAA (.pt 1 0 0) (.rf 9 E 0 k.values.es.length k.values.es.length) (.sl k.list.nl (k.list.es.map aH.av) k.list.cl) (.int .i64 k.list.es.length) (.int .i64 d.length) /\
  hp.get 1=some (0,.blk k.cells 6 true true false)/\hp.get 9=some (E,.blk (bF (iT (eD k.values.es.length ins) 0 d)) 2 true false false)) ?_ ?_ ?_
 exact⟨rfl,g1',g9⟩;clear g9 g1 g1' hp;rintro env hp ⟨rfl,g1,g9⟩;have g1':=g1;simp only[aA.cells,Sl.av]at g1;simp only[aAx,aAA,g1,go_sem,seval]
 refine aK k.results.es (λd r env hp=>env=aAz (.pt 1 0 0) (.rf 9 E 0 k.values.es.length k.values.es.length) (.sl k.results.nl (k.results.es.map aJ) k.results.cl) (.int .i64 k.results.es.length) (.int .i64 d.length) /\
  hp.get 1=some (0,.blk k.cells 6 true true false)/\hp.get 9=some (E,.blk (bF (pT (iT (eD k.values.es.length ins) 0 k.list.es) k.list.es.length d)) 2 true false false)) ?_ ?_ ?_
 exact⟨rfl,g1',g9⟩;clear g9 g1 g1' hp;rintro env hp ⟨rfl,g1,g9⟩;have hlen:(aF k).length=k.values.es.length:=by simp only[aF];rw[show pT=λsp n l=>eP sp n l from rfl];rw[jW,qV,hins',mM hinV]
 have hspk:pT (iT (eD k.values.es.length ins) 0 k.list.es) k.list.es.length k.results.es=aF k:=by rw[aF,hins']
 rw[hspk]at g9;have hsn:=aCq g9 61;rw[hlen]at hsn;simp only[aAw,aAz,go_sem,seval];simp only[Tev.conv,depth,eK,cF,bD,↓hsn,go_sem];rw[kE,if_pos hc];clear g9 g1 g1' hp;rintro d v r env hp hes ⟨rfl,g1,g9⟩;obtain⟨v1,v2,_⟩:=ok.res v (by rw[hes];simp);have hrb:=k.results.ok;rw[hes]at hrb;have hget:k.results.es[d.length]?=some v:=by rw[hes];simp
 have hlt:d.length<k.results.es.length:=by rw[hes];simp
 have e1:decide ((d.length:Int)<(k.results.es.length:Int))=true:=by simp;omega
 have e2:((d.length:Int)<(k.results.es.length:Int))=True:=eq_true (by omega);have v1':(0<=v)=True:=eq_true v1;have v2':(v<(k.values.es.length:Int))=True:=eq_true v2;have g1':=g1;simp only[aA.cells,Sl.av]at g1;have hln:(pT (iT (eD k.values.es.length ins) 0 k.list.es) k.list.es.length d).length=k.values.es.length:=by rw[show pT=λsp n l=>eP sp n l from rfl];rw[jW,qV,mM hinV]
 have hvl:v.toNat<(pT (iT (eD k.values.es.length ins) 0 k.list.es) k.list.es.length d).length:=by rw[hln];omega
 have hsno:kA (pT (iT (eD k.values.es.length ins) 0 k.list.es) k.list.es.length d) v k.list.es.length=pT (iT (eD k.values.es.length ins) 0 k.list.es) k.list.es.length (d++[v]):=by simp[pT]
 simp only[aAw,aAz,e1,e2,g1,g9,hget,v1',v2',MS _ v hvl,LO _ v _ hvl,aW hrb,hsno,go_sem,seval];exact⟨rfl,rfl⟩;clear g9 g1 g1' hp;rintro d q r env hp hes ⟨rfl,g1,g9⟩;obtain⟨v0,v2,_⟩:=jZ (ok.ker d q r hes);have hlb:=k.list.ok;rw[hes]at hlb;have hget:k.list.es[d.length]?=some q:=by rw[hes];simp
 have hlt:d.length<k.list.es.length:=by rw[hes];simp
 have e1:decide ((d.length:Int)<(k.list.es.length:Int))=true:=by simp;omega
 have e2:((d.length:Int)<(k.list.es.length:Int))=True:=eq_true (by omega);have v1':(0<=q.value)=True:=eq_true (by omega);have v2':(q.value<(k.values.es.length:Int))=True:=eq_true v2;obtain⟨p1,p2,_,_⟩:=hq q (by rw[hes];simp);have a3:=h30 q p1 p2 (hq2 q (by rw[hes];simp));rw[aH.avc]at a3;have hrd:=uD (ok.ker d q r hes);have hrlen:(d9 q).length<=big:=by have z1:=hq2 q (by rw[hes];simp);have z2:=lA q.body;have z3:=lA q.index;simp only[d9,bX];split<;>simp<;>omega
 have hrun:=wB d (eD k.values.es.length ins) 0 q;rw[Nat.zero_add]at hrun;rw[hrun];have hln:(iT (eD k.values.es.length ins) 0 d).length=k.values.es.length:=by rw[qV,mM hinV]
 generalize iT (eD k.values.es.length ins) 0 d=sp at g9 hln ⊢;have hvl:q.value.toNat<sp.length:=by omega
 have hvl2:q.value.toNat<(iX sp q.value d.length).length:=by rw[tN];exact hvl
 have hst:nR sp d.length q=eP (kA (if decide (kG sp q.value = -2) then iX sp q.value d.length else sp) q.value d.length) d.length (d9 q):=rfl;rw[hst];clear hst hrun h30 hq hq2;simp only[aAx,aAA,e1,e2,g9,hget,v1',v2',aCS sp q.value hvl,go_sem,seval];cases hfr:decide (kG sp q.value = -2)
 case true=>
  simp only[g9,v1',v2',aCR sp _ hvl,aCn sp _ _ hvl,MS _ _ hvl2,LO _ _ _ hvl2,go_sem,seval];refine lQ a3 (by simp only[go_sem,seval]) ?_;intro nl3 cl3 _;refine Wk ?_
  refine aK (d9 q) (λd2 r2 env hp=>env=G8 (.pt 1 0 0) (.rf 9 E 0 k.values.es.length k.values.es.length) (.int .i64 d.length) (.sl k.list.nl (k.list.es.map aH.av) k.list.cl) (.int .i64 k.list.es.length) (.int .i64 d.length) (.sl nl3 ((d9 q).map aJ) cl3) (.int .i64 (d9 q).length) (.int .i64 d2.length) /\
   hp.get 1=some (0,.blk k.cells 6 true true false)/\hp.get 9=some (E,.blk (bF (eP (kA (iX sp q.value d.length) q.value d.length) d.length d2)) 2 true false false)) ?_ ?_ ?_
  refine⟨rfl,?_,?_⟩;refine Wk ?_;exact g1;refine Wk ?_;rfl;clear g9 g1 hp;rintro env hp ⟨rfl,g1,g9⟩;simp only[NL,G8,aW hlb,go_sem,seval]
  first|exact⟨rfl,g1,g9⟩
  clear g9 g1 hp;rintro d2 v r2 env hp hes2 ⟨rfl,g1,g9⟩;obtain⟨w1,w2,_⟩:=hrd v (by rw[hes2];simp);have hget2:(d9 q)[d2.length]?=some v:=by rw[hes2];simp
  have hlt2:d2.length<(d9 q).length:=by rw[hes2];simp
  have f1:decide ((d2.length:Int)<((d9 q).length:Int))=true:=by simp;omega
  have f2:((d2.length:Int)<((d9 q).length:Int))=True:=eq_true (by omega);have w1':(0<=v)=True:=eq_true w1;have w2':(v<(k.values.es.length:Int))=True:=eq_true w2;have hvl3:v.toNat<(eP (kA (iX sp q.value d.length) q.value d.length) d.length d2).length:=by rw[jW,u7];rw[tN];omega
  have hrb2:(d2++v::r2).length<=big:=by rw[<-hes2];exact hrlen
  simp only[NL,G8,f1,f2,g9,hget2,w1',w2',MS _ v hvl3,LO _ v _ hvl3,aW hrb2,go_sem,seval];rw[xC]
  first|exact⟨rfl,g1,rfl⟩|exact g1
 case false=>
  simp only[g9,v1',v2',MS _ _ hvl,LO _ _ _ hvl,go_sem,seval];refine lQ a3 (by simp only[go_sem,seval]) ?_;intro nl3 cl3 _;refine Wk ?_
  refine aK (d9 q) (λd2 r2 env hp=>env=G8 (.pt 1 0 0) (.rf 9 E 0 k.values.es.length k.values.es.length) (.int .i64 d.length) (.sl k.list.nl (k.list.es.map aH.av) k.list.cl) (.int .i64 k.list.es.length) (.int .i64 d.length) (.sl nl3 ((d9 q).map aJ) cl3) (.int .i64 (d9 q).length) (.int .i64 d2.length) /\
   hp.get 1=some (0,.blk k.cells 6 true true false)/\hp.get 9=some (E,.blk (bF (eP (kA sp q.value d.length) d.length d2)) 2 true false false)) ?_ ?_ ?_
  refine⟨rfl,?_,?_⟩;refine Wk ?_;exact g1;refine Wk ?_;rfl;clear g9 g1 hp;rintro env hp ⟨rfl,g1,g9⟩;simp only[NL,G8,aW hlb,go_sem,seval]
  first|exact⟨rfl,g1,g9⟩
  clear g9 g1 hp;rintro d2 v r2 env hp hes2 ⟨rfl,g1,g9⟩;obtain⟨w1,w2,_⟩:=hrd v (by rw[hes2];simp);have hget2:(d9 q)[d2.length]?=some v:=by rw[hes2];simp
  have hlt2:d2.length<(d9 q).length:=by rw[hes2];simp
  have f1:decide ((d2.length:Int)<((d9 q).length:Int))=true:=by simp;omega
  have f2:((d2.length:Int)<((d9 q).length:Int))=True:=eq_true (by omega);have w1':(0<=v)=True:=eq_true w1;have w2':(v<(k.values.es.length:Int))=True:=eq_true w2;have hvl3:v.toNat<(eP (kA sp q.value d.length) d.length d2).length:=by rw[jW,u7];omega
  have hrb2:(d2++v::r2).length<=big:=by rw[<-hes2];exact hrlen
  simp only[NL,G8,f1,f2,g9,hget2,w1',w2',MS _ v hvl3,LO _ v _ hvl3,aW hrb2,go_sem,seval];rw[xC]
  first|exact⟨rfl,g1,rfl⟩|exact g1
 rintro d x r env hp hes ⟨rfl,g1,g9⟩;obtain⟨hx,hlt⟩:=gT hes;have hb2:(d++x::r).length<=big:=by rw[<-hes];simp;omega
 have hlen:(eD k.values.es.length d.length).length=k.values.es.length:=mM (by omega);have e1:decide ((d.length:Int)<k.inputs)=true:=by simp;omega
 have e2:((d.length:Int)<(k.values.es.length:Int))=True:=eq_true (by omega);have e3:(0+d.length*2+2<=(bF (eD k.values.es.length d.length)).length)=True:=eq_true (by rw[fA,hlen];omega);have e4:=aCs (l:=bF (eD k.values.es.length d.length)) (n:=d.length) (.int .i64 (-1)) (.int .i64 (-1)) (by rw[fA,hlen];omega);rw[AW,PN (by omega)]at e4;simp only[aAy,aAB,e1,e2,g9,e3,e4,aW hb2,go_sem,seval];rw[bX];exact⟨rfl,g1,rfl⟩;rw[hc];refine Wk ?_;rw[kE,hc];rfl
end
end
section
def lX(p q:Int×Int):Bool:=decide (0<p.2)&&decide (0<q.2)&&decide (p.1<q.1+q.2)&&decide (q.1<p.1+p.2)
def fitScan(s:Int):List (Int×Int)->Int->Int
 |[],at'=>at'
 |p::l,at'=>fitScan s l (if lX p (at',s) then p.1+p.2 else at')
def aPL(s:Int)(l:List (Int×Int))(a:Int):Prop:=0<=a/\∀b,0<=b->b<a->∃p∈l,lX p (b,s)=true
theorem vD{p q:Int×Int}:lX p q=true↔0<p.2/\0<q.2/\p.1<q.1+q.2/\q.1<p.1+p.2:=by simp[lX,and_assoc]
theorem QA(p q:Int×Int):lX p q=lX q p:=by rw[Bool.eq_iff_iff,vD,vD];constructor<;>rintro⟨a,b,c,d⟩<;>exact⟨b,a,d,c⟩
theorem min_zero(s:Int)(l:List (Int×Int)):aPL s l 0:=⟨Int.le_refl 0,λb h1 h2=>absurd h2 (by omega)⟩
end
section
def rL(p:Sp):Bool:=decide (p.1<0)||decide (p.2<0)||decide (1000000000<p.1)||decide (1000000000<p.2)
theorem FA{p:Sp}(h:rL p=false):0<=p.1/\0<=p.2/\p.1<=1000000000/\p.2<=1000000000:=by simp only[rL,Bool.or_eq_false_iff,fL]at h;omega
def aIB(l:List Sp):List Sp:=l.mergeSort λa b=>decide (a.1<=b.1)
def fitS(l:List Sp)(s:Int):Int:=if s<0\/1000000000<s\/l.any rL=true then -1 else fitScan s (aIB l) 0
section
variable{pg:Pg}
theorem c638(hf:pg.fs 638=some HF)(p q:Sp)(h1:wr .i64 (q.1+q.2)=q.1+q.2)(h2:wr .i64 (p.1+p.2)=p.1+p.2):Ret pg 638 [bQ p,bQ q] (.bool (lX p q)):=by
 refine Ret.ofX hf ?_;unfold HF;have hs:lX p q=(decide (0<p.2)&&decide (0<q.2)&&decide (p.1<q.1+q.2)&&decide (q.1<p.1+p.2)):=rfl;rw[hs];cases b1:decide (0<p.2)
 case false=>simp only[bQ,b1,go_sem,seval]
 cases b2:decide (0<q.2)
 case false=>simp only[bQ,b1,b2,go_sem,seval]
 cases b3:decide (p.1<q.1+q.2)
 case false=>simp only[bQ,b1,b2,h1,b3,go_sem,seval]
 simp only[bQ,b1,b2,h1,b3,h2,go_sem,seval]
theorem gI(l:List Sp):treeL (l.map bQ)=true:=bJ (f:=bQ) (λs=>by simp[bQ,go_sem]) l
end
end
section
def jN(at_:Int)(s:Sp):Bool := !decide (s.1 = -2)&&decide (s.1<=at_)&&decide (at_<=s.2)
def cY(at_:Int)(d:List Sp):List Int:=(d.zipIdx.filter λx=>jN at_ x.1).map λx=>(x.2:Int)
theorem sC(at_:Int)(d:List Sp)(x:Sp):cY at_ (d++[x])=cY at_ d++if jN at_ x then [(d.length:Int)] else []:=by simp only[cY,List.zipIdx_append,List.filter_append,List.map_append,List.zipIdx_singleton,Nat.zero_add];congr 1;cases h:jN at_ x<;>simp[h]
theorem lO{at_:Int}{d:List Sp}{v:Int}:v∈cY at_ d↔∃s,0<=v/\d[v.toNat]?=some s/\jN at_ s=true:=by simp only[cY,List.mem_map,List.mem_filter,List.mem_zipIdx_iff_getElem?];constructor;rintro⟨⟨s,i⟩,⟨h1,h2⟩,rfl⟩;exact⟨s,by simp,by simpa using h1,h2⟩;rintro⟨s,h0,h1,h2⟩;exact⟨(s,v.toNat),⟨by simpa using h1,h2⟩,by simp;omega⟩
def kM(k:aA)(at_:Int)(r:AV):Prop:=
 if (cP k).2=0 then
  (if at_ < -1\/(k.list.es.length:Int)<at_ then r = .tup [.sl true [] true,.int .i64 2] else ∃nl cl,r = .tup [.sl nl ((cY at_ (aF k)).map aJ) cl,.int .i64 0])
 else r = .tup [.sl true [] true,.int .i64 22]
theorem kZ{k:aA}(h:k.inputs.toNat<=k.values.es.length):(aF k).length=k.values.es.length:=by simp only[aF];rw[show pT=λsp n l=>eP sp n l from rfl];rw[jW,qV,mM h]
section
variable{pg:Pg}
theorem c11(hf:pg.fs 11=some aBA)(k:aA)(h9:bE pg 9 [k.av] (kE k))(at_:Int):bE pg 11 [k.av,.int .i64 at_] (kM k at_):=by
 obtain⟨r9,hr9,hs9⟩:=h9;refine bE.ofX hf ?_;unfold aBA;simp only[aA.av,aA.cells,go_sem,seval];rcases jH (k:=k) with hc|hc;have ok:=dS hc;have hso:=ok.out;simp only[bO,aG,aY]at hso;obtain⟨_,⟨⟨⟨⟨⟨⟨_,_⟩,hi0⟩,_⟩,hiV⟩,_⟩,_⟩,_⟩:=hso;have hsl:=kZ (k:=k) (by omega);have hVb:=k.values.ok;have htr:treeL ((aF k).map bQ)=true:=bJ (f:=bQ) (λs=>by simp[bQ,go_sem]) _;rw[kE,if_pos hc]at hs9;subst hs9;refine bT hr9 (by simp only[aA.av,aA.cells,go_sem,seval]) (by first|rfl|(simp[AV.tree,htr])) (Wk ?_);cases ha:decide (at_ < -1)
 case true=>refine Wk ?_;rw[kM,if_pos hc,if_pos (.inl (by simpa using ha))]
 case false=>
  refine Wk ?_;cases hb:decide ((k.list.es.length:Int)<at_)
  case true=>refine Wk ?_;rw[kM,if_pos hc,if_pos (.inr (by simpa using hb))]
  case false=>
   refine Wk ?_;refine aK (aF k) (λd r env hp=>∃v,env=TI (.int .i64 at_) v (.sl false ((aF k).map bQ) false) (.int .i64 (aF k).length) (.int .i64 d.length)/\Own hp 13 1 false v ((cY at_ d).map aJ)) ?_ ?_ ?_;exact⟨_,rfl,Own.nil _ _ _ _ _ _ rfl⟩;rintro env hp ⟨v,rfl,ho⟩;simp only[TH,TI,go_sem,seval];have hfin:∀r,(∃nl cl,r = .tup [.sl nl ((cY at_ (aF k)).map aJ) cl,.int .i64 0])->kM k at_ r:=by intro r hr;rw[kM,if_pos hc,if_neg (by simp at ha hb;omega)];exact hr
   obtain⟨nl,cl,keys,hsn,_⟩:=ho.snap (El.ints _) 61;rcases ho with ⟨he,nl',cl',rfl,_⟩|⟨e,cs,rfl,hg,hu⟩
   rw[<-he];refine Wk ?_;exact hfin _ ⟨nl',cl',by rw[he]⟩;simp only[aI]at hsn;simp only[Tev.conv,depth,eK,cF,bD,↓hsn,go_sem,aI];exact hfin _ ⟨_,_,rfl⟩;rintro d x r env hp hes ⟨v,rfl,ho⟩;have hb2:(d++x::r).length<=big:=by rw[<-hes,hsl];exact hVb
   have hget:(aF k)[d.length]?=some x:=by rw[hes];simp
   have hlt:d.length<(aF k).length:=by rw[hes];simp
   have e1:decide ((d.length:Int)<((aF k).length:Int))=true:=by simp;omega
   have e2:((d.length:Int)<((aF k).length:Int))=True:=eq_true (by omega);have hll:(cY at_ d).length<=d.length:=by simp only[cY,aI];exact Nat.le_trans (List.length_filter_le _ _) (by simp)
   have hdl:d.length<=16777216:=by simp only[big]at hb2;simp at hb2;omega
   have hin:∀y∈[AV.int .i64 (d.length:Int)],El 1 false y:=by intro y hy;simp at hy;subst hy;exact⟨rfl,rfl,rfl⟩
   have hw:=aW hb2;have hno:jN at_ x=false->cY at_ (d++[x])=cY at_ d:=by intro h;rw[sC,h];simp
   simp only[TH,TI,e1,e2,hget,bQ,go_sem,seval];have hgo:∀hp':Hp,hp'.get 13=hp.get 13->Own hp' 13 1 false v ((cY at_ d).map aJ):=λhp' h=>ho.mono h;cases b1:decide (x.fst = -2)
   case true=>simp only[hw,go_sem,seval];refine⟨v,rfl,?_⟩;rw[hno (by simp[jN,b1])];exact hgo _ (by simp only[go_sem,seval])
   cases b2:decide (x.fst<=at_)
   case false=>simp only[hw,b2,go_sem,seval];refine⟨v,rfl,?_⟩;rw[hno (by simp[jN,b1,b2])];exact hgo _ (by simp only[go_sem,seval])
   cases b3:decide (at_<=x.snd)
   case false=>simp only[hw,b2,b3,go_sem,seval];refine⟨v,rfl,?_⟩;rw[hno (by simp[jN,b1,b2,b3])];exact hgo _ (by simp only[go_sem,seval])
   simp only[hw,b2,b3,go_sem,seval];refine eF (kb:=0) (s:=13) (hgo _ ?_) (El.ints _) hin (by simp only[aI,List.length_singleton];omega) (by decide) ?_;simp only[go_sem,seval];intro v' rd pa ho2 _ _;simp only[hw,go_sem,seval];refine⟨v',rfl,?_⟩;rw[sC,show jN at_ x=true by simp[jN,b1,b2,b3]];simpa[xZ] using ho2
 rw[kE,if_neg (by omega)]at hs9;subst hs9;refine bT hr9 (by simp only[aA.av,aA.cells,go_sem,seval]) rfl (Wk ?_);rw[kM,if_neg (by omega)]
end
end
section
def gS(x:Int):List Int->List Int
 |[]=>[x]
 |y::r=>if decide (y<x) then y::gS x r else if decide (y=x) then y::r else x::y::r
theorem DJ{x:Int}:∀(d rest:List Int),(∀y∈d,y<x)->gS x (d++rest)=d++gS x rest
 |[],rest,_=>rfl
 |y::d,rest,h=>by have h1:y<x:=h y (by simp);simp only[List.cons_append,gS,h1,decide_true,if_true];rw[DJ d rest (λz hz=>h z (dH _ hz))]
theorem xT{x a:Int}:∀l:List Int,a∈gS x l↔a=x\/a∈l
 |[]=>by simp[gS]
 |y::r=>by
  simp only[gS];split;simp only[List.mem_cons,xT r];constructor<;>(intro h;rcases h with h|h|h<;>simp[h])
  split;rename_i h;simp at h;subst h;simp;simp
theorem DI(x:Int):∀l:List Int,(gS x l).length<=l.length+1
 |[]=>by simp[gS]
 |y::r=>by have:=DI x r;simp only[gS];split;simp;omega;split<;>simp
def IsL(l:List Int)(r:AV):Prop:=(∃nl cl,r = .sl nl (l.map aJ) cl)\/r = .os (l.map aJ) 1 false
theorem IsL.of{l:List Int}{r:AV}(h:nP 1 false (l.map aJ) r):IsL l r:=by rcases h with ⟨he,nl,cl,rfl,_⟩|h;exact .inl ⟨nl,cl,by rw[he]⟩;exact .inr h
section
variable{pg:Pg}
def aCE(kb:Nat)(h:Hp)(k1:Nat)(l:List Int)(r:AV)(h':Hp):Prop:=
 ∃k2,Own h' k2 1 false r (l.map aJ)/\(k2=k1\/k2=kb+5\/k2=kb+9)/\∀k,k≠kb+1->k≠kb+5->k≠kb+9->h'.get k=h.get k
theorem zM{h:Hp}{k e:Nat}{l:List Int}(hg:h.get k=some (e,.blk (l.map aJ) 1 false false false)){n:Nat}(hn:n=l.length):Own h k 1 false (.rf k e 0 n n) (l.map aJ):=by subst hn;exact .inr ⟨e,_,by simp,hg,gU l⟩
theorem DT(l:List Int):(l.map aJ).all (λv=>v.cells.length==1)=true:=by rw[eG];intro x hx;obtain⟨y,_,rfl⟩:=List.mem_map.1 hx;rfl
theorem aCr(nl cl:Bool)(d rest:List Int):∃c,∀h,iO h 1 false true false [.sl nl ((d++rest).map aJ) cl,.int .i64 (d.length:Int)]=some (.sl nl (d.map aJ) c,.pat [] []):=by refine⟨(nl||cl)&&((d.length:Int)==((((d++rest).map aJ).length:Nat):Int)),λh=>?_⟩;simp only[iO,iZ,jL,Bool.false_eq_true,if_false,if_true,Option.getD_none,Option.getD_some,DT,Option.isSome_none];rw[if_pos ⟨by omega,by omega,by omega,by simp only[aI,bX];omega,trivial⟩];simp[val]
theorem LV(nl cl:Bool)(d rest:List Int):∃c,∀h,iO h 1 true false false [.sl nl ((d++rest).map aJ) cl,.int .i64 (d.length:Int)]=some (.sl nl (rest.map aJ) c,.pat [] []):=by
 refine⟨(nl||cl)&&true,λh=>?_⟩;simp only[iO,iZ,jL,Bool.false_eq_true,if_false,if_true,Option.getD_none,Option.getD_some,DT,Option.isSome_none];rw[if_pos ⟨by omega,by simp only[aI,bX];omega,by omega,by omega,trivial⟩];have e:((d++rest).map aJ).drop (d.length:Int).toNat=rest.map aJ:=by rw[Int.toNat_natCast,List.map_append,List.drop_left' (by simp)]
 rw[e,List.take_of_length_le (by simp only[aI,bX];omega)];simp[val]
theorem BV:∀l:List Int,cH (l.map aJ)=true
 |[]=>rfl
 |x::r=>by simp only[List.map_cons,cH,BV r];rfl
theorem TW(l:List Int)(a b:Nat):cH (((l.map aJ).drop a).take b)=true:=by rw[<-List.map_drop,<-List.map_take];exact BV _
theorem IG{H:Hp}{k e:Nat}{cs:List AV}{ag ti fz:Bool}(hg:H.get k=some (e,.blk cs 1 ag ti fz)){m n:Nat}(hm:m<=n)(hmx:ti=false) :
  iO H 1 false true false [.rf k e 0 n n,.int .i64 (m:Int)]=some (.rf k e 0 m n,.pat [k] []):=by
 subst hmx;simp only[iO,iZ,jL,Bool.false_eq_true,if_false,if_true,Option.getD_none,Option.getD_some,hg];rw[if_pos (by simp;omega)];simp
theorem UB{H:Hp}{k e:Nat}{cs:List AV}{ag fz:Bool}(hg:H.get k=some (e,.blk cs 1 ag false fz)){m n:Nat}(hm:m<n) :
  iO H 1 true false false [.rf k e 0 n n,.int .i64 (m:Int)]=some (.rf k e m (n-m) (n-m),.pat [k] []):=by
 simp only[iO,iZ,jL,Bool.false_eq_true,if_false,if_true,Option.getD_none,Option.getD_some,hg];rw[if_pos (by simp;omega)];rw[if_neg (by omega)];simp
theorem YA{H:Hp}{k e:Nat}{cs:List AV}{ag fz:Bool}(hg:H.get k=some (e,.blk cs 1 ag false fz)){n:Nat}(hn:n≠0) :
  iO H 1 true false false [.rf k e 0 n n,.int .i64 (n:Int)]=some (.sl false [] false,.pat [k] []):=by
 simp only[iO,iZ,jL,Bool.false_eq_true,if_false,if_true,Option.getD_none,Option.getD_some,hg];rw[if_neg (by rintro⟨_,_,_,_,_,_,_,h|h|h⟩<;>first|omega|cases h),if_pos (by simp)]
theorem L5{H:Hp}{k e:Nat}{l:List Int}{ag ti fz:Bool}(hg:H.get k=some (e,.blk (l.map aJ) 1 ag ti fz)){off m cap:Nat}(hm:off+m<=l.length){xs:List Int}(hx:(l.drop off).take m=xs) :
  bB H 1 false (.rf k e off m cap)=some (xs.map aJ,xs.length,[k]):=by
 subst hx;simp only[bB,hg];rw[if_pos ⟨trivial,by simpa using hm,by simpa using TW l off m⟩];simp;omega
theorem F7{H:Hp}{nl cl:Bool}(xs:List Int):bB H 1 false (.sl nl (xs.map aJ) cl)=some (xs.map aJ,xs.length,[]):=by simp[bB,gU]
theorem D4{H:Hp}{K:Nat}{src:AV}{xs:List Int}{rd:List Nat}(hs:bB H 1 false src=some (xs.map aJ,xs.length,rd))(hx:xs≠[])(hl:xs.length<=1073741824) :
  nY H K 1 false 8 [.sl false [] true,src]=some (.rf K (H.next K) 0 xs.length xs.length,.pat (K::rd) [⟨K,H.next K,.blk (xs.map aJ) 1 false false false⟩]):=by
 have hn:xs.length≠0:=by simpa using hx
 simp[nY,hs,mD,hn,hl,bV]
theorem QR{H:Hp}{K:Nat}{src:AV}{rd:List Nat}(hs:bB H 1 false src=some ([],0,rd)) :
  nY H K 1 false 8 [.sl false [] true,src]=some (.sl false [] true,.pat rd []):=by
 simp[nY,hs,mD]
theorem UU{H:Hp}{K K1 e1:Nat}{es:List Int}(hg:H.get K1=some (e1,.blk (es.map aJ) 1 false false false))(hk:K1≠K){src:AV}{xs:List Int}{rd:List Nat}(hs:bB H 1 false src=some (xs.map aJ,xs.length,rd))(hx:xs≠[])
  (hl:es.length+xs.length<=1073741824) {n:Nat} (hn:n=es.length) :
  nY H K 1 false 8 [.rf K1 e1 0 n n,src]=some (.rf K (H.next K) 0 (es.length+xs.length) (es.length+xs.length),.pat (K::K1::rd) [⟨K1,e1,.dead⟩,⟨K,H.next K,.blk ((es++xs).map aJ) 1 false false false⟩]):=by
 have hx0:xs.length≠0:=by simpa using hx
 subst hn;have h2:(K1==K)=false:=by simpa using hk
 simp only[nY,hs,mD,hg,hx0,if_false,true_and,Nat.zero_add,Nat.mul_one];rw[if_pos (by simp),if_neg (by omega)];simp only[hl,decide_true,Bool.true_and,h2,Bool.not_false,Bool.false_eq_true,if_false,show (8:Nat)<=65536 from by decide,if_true];have ht:List.take es.length (List.map aJ es)=List.map aJ es:=by rw[List.take_of_length_le (by simp)]
 simp[ht]
theorem QQ{H:Hp}{K K1 e1:Nat}{es:List Int}(hg:H.get K1=some (e1,.blk (es.map aJ) 1 false false false)){src:AV}{rd:List Nat}(hs:bB H 1 false src=some ([],0,rd)){n:Nat}(hn:n=es.length) :
  nY H K 1 false 8 [.rf K1 e1 0 n n,src]=some (.rf K1 e1 0 n n,.pat (K1::rd) []):=by
 subst hn;simp only[nY,hs,mD,hg];rw[if_pos (by simp)];simp
attribute [local go_sem] Nat.left_eq_add Nat.add_eq_left
theorem aOn{f:Nat}(hf:pg.fs f=some AF)(kb:Nat)(h:Hp)(k1 e:Nat)(l:List Int)(hb:l.length<big)(x:Int)(hg:h.get k1=some (e,.blk (l.map aJ) 1 false false false))
  (n1:(k1=kb+1)=False) (n5:(k1=kb+5)=False) (n9:(k1=kb+9)=False) (hne:l≠[]) :
  gH pg f [.rf k1 e 0 l.length l.length,.int .i64 x] kb h (aCE kb h k1 (gS x l)):=by
 have n1':(kb+1=k1)=False:=by rw[<-n1];exact propext eq_comm
 have n5':(kb+5=k1)=False:=by rw[<-n5];exact propext eq_comm
 have n9':(kb+9=k1)=False:=by rw[<-n9];exact propext eq_comm
 refine gH.ofX hf ?_;unfold AF;simp only[big]at hb;refine Wk ?_;refine aK l (λd r env hp=>env=AE (.rf k1 e 0 l.length l.length) (.int .i64 x) (.int .i64 d.length)/\hp=h/\∀y∈d,y<x) ?_ ?_ ?_;exact⟨rfl,rfl,by simp⟩;rintro env hp ⟨rfl,rfl,hI⟩;have s2:∀H,bB H 1 false (.sl false [.int .i64 x] true)=some ([x].map aJ,[x].length,[]):=λH=>F7 [x];have s0:∀H,bB H 1 false (.sl false [] false)=some ([],0,[]):=λH=>F7 [];have hl':l=l++[]:=by simp
 have hres:gS x l=l++[x]:=by have:=DJ l [] hI;rwa [List.append_nil]at this
 have hd0:l≠[]:=hne;have hlo:=IG (H:=hp) hg (m:=(l).length) (n:=l.length) (by omega) rfl;simp only[uW,AE,↓hlo,go_sem,seval];have s1:=L5 (off:=0) (m:=(l).length) (cap:=l.length) (xs:=l) hg (by omega) (by rw[hl'];simp);rw[iQ,D4 s1 hd0 (by omega)];simp only[n1,n5,n9,n1',n5',n9',go_sem,seval];rw[iQ,UU (es:=l) (xs:=[x]) (by rw[aD,if_pos rfl]) (by omega) (s2 _) (by simp) (by simp;omega) rfl];have hhi:∀H:Hp,H.get k1=hp.get k1->iO H 1 true false false [.rf k1 e 0 l.length l.length,.int .i64 (l.length:Int)]=some (.sl false [] false,.pat [k1] []):=λH h=>YA (h.trans hg) (by simpa using hne);simp only[n1,n5,n9,n1',n5',n9',hg,↓hhi,go_sem,seval];rw[iQ,QQ (es:=l++[x]) (by rw[aD,if_pos rfl]) (s0 _) (by simp)];simp only[n1,n5,n9,n1',n5',n9',go_sem,seval];refine⟨by simp[hU,jI,R.apart,R.uses,X.tmp,Eff.apart,z7,n1,n5,n9,n1',n5',n9',Nat.testBit],?_⟩;rw[hres];refine⟨kb+5,zM (by simp only[aD,if_true,Nat.reduceEqDiff,Nat.left_eq_add,Nat.add_eq_left,if_false,List.nil_append,List.append_assoc,List.singleton_append,List.cons_append]) (by simp),by simp,?_⟩;intro k q1 q5 q9;simp only[aD,Ne.symm q1,Ne.symm q5,Ne.symm q9,if_false];rintro d y r env hp hes ⟨rfl,rfl,hI⟩;have hb':(d++y::r).length<16777216:=by rw[<-hes];exact hb
 have hb2:(d++y::r).length<=big:=by simp only[big];omega
 have hw:=aW hb2;have hget:l[d.length]?=some y:=by rw[hes];simp
 have hlt:d.length<l.length:=by rw[hes];simp
 have e1:decide ((d.length:Int)<(l.length:Int))=true:=by simp;omega
 have e2:((d.length:Int)<(l.length:Int))=True:=eq_true (by omega);cases hyx:decide (y<x)
 case true=>simp only[uW,AE,e1,e2,hg,Nat.mul_one,Nat.zero_add,hget,hyx,hw,go_sem,seval];refine⟨rfl,?_⟩;intro z hz;rw[nQ,List.mem_singleton]at hz;rcases hz with hz|rfl;exact hI z hz;simpa using hyx
 case false=>
  have hp2:=DJ d (y::r) hI;rw[<-hes]at hp2;have hp3:gS x (y::r)=if decide (y=x) then y::r else x::y::r:=by rw[gS,hyx];rfl
  cases hye:decide (y=x)
  case true=>
   have hres:gS x l=l:=by rw[hp2,hp3,hye,hes];rfl
   simp only[uW,AE,e1,e2,hg,Nat.mul_one,Nat.zero_add,hget,hyx,hye,go_sem,seval];rw[hres];exact⟨k1,zM hg rfl,.inl rfl,λ_ _ _ _=>rfl⟩
  case false=>
   have hres:gS x l=d++x::y::r:=by rw[hp2,hp3,hye];rfl
   have hl':l=d++(y::r):=hes;have s2:∀H,bB H 1 false (.sl false [.int .i64 x] true)=some ([x].map aJ,[x].length,[]):=λH=>F7 [x];have s0:∀H,bB H 1 false (.sl false [] false)=some ([],0,[]):=λH=>F7 [];have hll:l.length=d.length+(r.length+1):=by rw[hes];simp
   rcases mK d with hdn|⟨d1,d2,hdc⟩
   subst hdn;have e1:decide ((0:Int)<(l.length:Int))=true:=by simp;omega
   have e2:((0:Int)<(l.length:Int))=True:=eq_true (by omega);have hget:l[0]?=some y:=by rw[hes];simp
   have hlo:iO hp 1 false true false [.rf k1 e 0 l.length l.length,.int .i64 0]=some (.rf k1 e 0 0 l.length,.pat [k1] []):=IG (H:=hp) hg (m:=0) (n:=l.length) (by omega) rfl;simp only[uW,AE,e1,e2,hg,Nat.mul_one,Nat.zero_add,hget,hyx,hye,↓hlo,go_sem,seval];have s1:=L5 (off:=0) (m:=0) (cap:=l.length) (xs:=[]) hg (by omega) (by simp);rw[iQ,QR s1];simp only[n1,n5,n9,n1',n5',n9',go_sem,seval];rw[iQ,D4 (xs:=[x]) (s2 _) (by simp) (by simp)];have hhi:∀H:Hp,H.get k1=hp.get k1->iO H 1 true false false [.rf k1 e 0 l.length l.length,.int .i64 0]=some (.rf k1 e 0 (l.length-0) (l.length-0),.pat [k1] []):=λH h=>UB (h.trans hg) (by omega);simp only[n1,n5,n9,n1',n5',n9',hg,↓hhi,go_sem,seval];have s3:∀H:Hp,H.get k1=hp.get k1->bB H 1 false (.rf k1 e 0 (l.length-0) (l.length-0))=some (((y::r)).map aJ,((y::r)).length,[k1]):=λH h=>L5 (h.trans hg) (by omega) (by rw[hl'];simp);rw[iQ,UU (es:=[x]) (xs:=(y::r)) (by rw[aD,if_pos rfl];rfl) (by omega) (s3 _ (by simp only[aD,n1',n5',n9',if_false])) (by simp) (by simp;omega) (by simp)];simp only[n1,n5,n9,n1',n5',n9',go_sem,seval];refine⟨by simp[hU,jI,R.apart,R.uses,X.tmp,Eff.apart,z7,n1,n5,n9,n1',n5',n9',Nat.testBit],?_⟩;rw[hres];refine⟨kb+9,zM (by simp only[aD,if_true,Nat.reduceEqDiff,Nat.left_eq_add,Nat.add_eq_left,if_false,List.nil_append,List.append_assoc,List.singleton_append,List.cons_append];rfl) (by simp;omega),by simp,?_⟩;intro k q1 q5 q9;simp only[aD,Ne.symm q1,Ne.symm q5,Ne.symm q9,if_false];have hd0:d≠[]:=by rw[hdc];simp
   have hlo:=IG (H:=hp) hg (m:=(d).length) (n:=l.length) (by omega) rfl;simp only[uW,AE,e1,e2,hg,Nat.mul_one,Nat.zero_add,hget,hyx,hye,↓hlo,go_sem,seval];have s1:=L5 (off:=0) (m:=(d).length) (cap:=l.length) (xs:=d) hg (by omega) (by rw[hl'];simp);rw[iQ,D4 s1 hd0 (by omega)];simp only[n1,n5,n9,n1',n5',n9',go_sem,seval];rw[iQ,UU (es:=d) (xs:=[x]) (by rw[aD,if_pos rfl]) (by omega) (s2 _) (by simp) (by simp;omega) rfl];have hhi:∀H:Hp,H.get k1=hp.get k1->iO H 1 true false false [.rf k1 e 0 l.length l.length,.int .i64 ((((d).length):Nat):Int)]=some (.rf k1 e (d).length (l.length-(d).length) (l.length-(d).length),.pat [k1] []):=λH h=>UB (h.trans hg) (by omega);simp only[n1,n5,n9,n1',n5',n9',hg,↓hhi,go_sem,seval];have s3:∀H:Hp,H.get k1=hp.get k1->bB H 1 false (.rf k1 e (d).length (l.length-(d).length) (l.length-(d).length))=some (((y::r)).map aJ,((y::r)).length,[k1]):=λH h=>L5 (h.trans hg) (by omega) (by rw[hl'];simp);rw[iQ,UU (es:=d++[x]) (xs:=(y::r)) (by rw[aD,if_pos rfl]) (by omega) (s3 _ (by simp only[aD,n1',n5',n9',if_false])) (by simp) (by simp;omega) (by simp)];simp only[n1,n5,n9,n1',n5',n9',go_sem,seval];refine⟨by simp[hU,jI,R.apart,R.uses,X.tmp,Eff.apart,z7,n1,n5,n9,n1',n5',n9',Nat.testBit],?_⟩;rw[hres];refine⟨kb+9,zM (by simp only[aD,if_true,Nat.reduceEqDiff,Nat.left_eq_add,Nat.add_eq_left,if_false,List.nil_append,List.append_assoc,List.singleton_append,List.cons_append]) (by simp;omega),by simp,?_⟩;intro k q1 q5 q9;simp only[aD,Ne.symm q1,Ne.symm q5,Ne.symm q9,if_false]
theorem aOm{f:Nat}(hf:pg.fs f=some AF)(kb:Nat)(h:Hp)(k1:Nat)(nl cl:Bool)(x:Int) :
  gH pg f [.sl nl [] cl,.int .i64 x] kb h (aCE kb h k1 [x]):=by
 have s2:∀H,bB H 1 false (.sl false [.int .i64 x] true)=some ([x].map aJ,[x].length,[]):=λH=>F7 [x];have s0:∀H nl cl,bB H 1 false (.sl nl [] cl)=some ([],0,[]):=λH nl cl=>by simp[bB,bV]
 obtain⟨c1,q1⟩:=aCr nl cl [] [];obtain⟨c2,q2⟩:=LV nl cl [] [];simp only[List.append_nil,List.map_nil,List.length_nil,Int.natCast_zero]at q1 q2;refine gH.ofX hf ?_;unfold AF;refine Wk ?_;rw[oO];simp only[uW,R1,Tev.clear,↓q1,go_sem,seval];rw[iQ,QR (s0 _ _ _)];refine Wk ?_;rw[iQ,D4 (xs:=[x]) (s2 _) (by simp) (by simp)];simp only[↓q2,go_sem,seval];rw[iQ,QQ (es:=[x]) (by rw[aD,if_pos rfl];rfl) (s0 _ _ _) (by simp)];refine Wk ?_;refine⟨by simp[hU,jI,R.apart,R.uses,X.tmp,Eff.apart,z7,Nat.testBit],?_⟩;refine⟨kb+5,zM (l:=[x]) (by rw[aD,if_pos rfl];rfl) rfl,by simp,?_⟩;intro k q1 q5 q9;simp only[aD,Ne.symm q5,if_false]
theorem aOo{f:Nat}(hf:pg.fs f=some AF)(kb:Nat)(h:Hp)(k1 e:Nat)(x:Int)(hg:h.get k1=some (e,.blk [] 1 false false false))
  (n1:(k1=kb+1)=False) (n5:(k1=kb+5)=False) (n9:(k1=kb+9)=False) :
  gH pg f [.rf k1 e 0 0 0,.int .i64 x] kb h (aCE kb h k1 [x]):=by
 have n1':(kb+1=k1)=False:=by rw[<-n1];exact propext eq_comm
 have n5':(kb+5=k1)=False:=by rw[<-n5];exact propext eq_comm
 have n9':(kb+9=k1)=False:=by rw[<-n9];exact propext eq_comm
 have s2:∀H,bB H 1 false (.sl false [.int .i64 x] true)=some ([x].map aJ,[x].length,[]):=λH=>F7 [x];have s0:∀H:Hp,H.get k1=h.get k1->bB H 1 false (.rf k1 e 0 0 0)=some ([],0,[k1]):=λH hh=>by simp[bB,hh,hg,cH]
 have q1:∀H:Hp,H.get k1=h.get k1->iO H 1 false true false [.rf k1 e 0 0 0,.int .i64 0]=some (.rf k1 e 0 0 0,.pat [k1] []):=λH hh=>by simp[iO,iZ,jL,hh,hg]
 have q2:∀H:Hp,H.get k1=h.get k1->iO H 1 true false false [.rf k1 e 0 0 0,.int .i64 0]=some (.rf k1 e 0 0 0,.pat [k1] []):=λH hh=>by simp[iO,iZ,jL,hh,hg]
 refine gH.ofX hf ?_;unfold AF;refine Wk ?_;rw[oO];simp only[uW,R1,Tev.clear,↓q1,go_sem,seval];rw[iQ,QR (s0 _ rfl)];refine Wk ?_;rw[iQ,D4 (xs:=[x]) (s2 _) (by simp) (by simp)];simp only[n1,n5,n9,n1',n5',n9',↓q2,go_sem,seval];rw[iQ,QQ (es:=[x]) (by rw[aD,if_pos rfl];rfl) (s0 _ (by simp only[aD,n1',n5',n9',if_false])) (by simp)];refine Wk ?_;refine⟨by simp[hU,jI,R.apart,R.uses,X.tmp,Eff.apart,z7,Nat.testBit,n1,n5,n9,n1',n5',n9'],?_⟩;refine⟨kb+5,zM (l:=[x]) (by rw[aD,if_pos rfl];rfl) rfl,by simp,?_⟩;intro k q1 q5 q9;simp only[aD,Ne.symm q5,if_false]
theorem aOl{f:Nat}(hf:pg.fs f=some AF){kb:Nat}{h:Hp}{k1:Nat}{v:AV}{l:List Int}(o:Own h k1 1 false v (l.map aJ))(hb:l.length<big)(x:Int)(n1:k1≠kb+1)(n5:k1≠kb+5)(n9:k1≠kb+9) :
  gH pg f [v,.int .i64 x] kb h (aCE kb h k1 (gS x l)):=by
 rcases o with ⟨he,nl,cl,rfl,_⟩|⟨e,cs,rfl,hg,hu⟩
 have:l=[]:=by simpa using he
 subst this;exact aOm hf kb h k1 nl cl x;rw[gU]at hu;cases hu;by_cases hl:l=[]
 subst hl;exact aOo hf kb h k1 e x hg (eq_false n1) (eq_false n5) (eq_false n9);have:=aOn hf kb h k1 e l hb x hg (eq_false n1) (eq_false n5) (eq_false n9) hl;simpa using this
end
end
section
def jE(acc l:List Int):List Int:=l.foldl (λa x=>gS x a) acc
mutual
def bM:aC->List Int
 |.mk op _ value _ _ _ _ _ _ kids _=>d8 (if decide (op.bs=[114,101,97,100]) then gS value [] else []) kids
def d8:List Int->List aC->List Int
 |acc,[]=>acc
 |acc,p::r=>d8 (jE acc (bM p)) r
end
theorem zK(p:aC):bM p=d8 (if decide (p.op.bs=[114,101,97,100]) then gS p.value [] else []) p.kids:=by cases p;rw[bM];rfl
theorem mQ:∀(l acc:List Int),(jE acc l).length<=acc.length+l.length
 |[],acc=>by simp[jE]
 |x::r,acc=>by have h1:=mQ r (gS x acc);have h2:=DI x acc;simp only[jE,List.foldl_cons,List.length_cons]at *;omega
theorem wM(acc d:List Int)(x:Int):jE acc (d++[x])=gS x (jE acc d):=by simp[jE]
theorem vC{a:Int}:∀(l acc:List Int),a∈jE acc l↔a∈acc\/a∈l
 |[],acc=>by simp[jE]
 |x::r,acc=>by have h1:=vC (a:=a) r (gS x acc);simp only[jE,List.foldl_cons]at *;rw[h1,xT,List.mem_cons];constructor;rintro((h|h)|h)<;>simp[h];rintro(h|h|h)<;>simp[h]
theorem rU:∀(d:List aC)(acc:List Int)(x:aC),d8 acc (d++[x])=jE (d8 acc d) (bM x)
 |[],acc,x=>by simp[d8]
 |y::d,acc,x=>by simp only[List.cons_append,d8];exact rU d _ x
mutual
theorem jX:∀p:aC,(bM p).length<=p.sz
 |.mk op _ value _ _ _ _ _ _ kids _=>by have h:=pW kids (if decide (op.bs=[114,101,97,100]) then gS value [] else []);rw[bM,aC.sz];split at h<;>simp_all [gS]<;>omega
theorem pW:∀(l:List aC)(acc:List Int),(d8 acc l).length<=acc.length+aC.szL l
 |[],acc=>by simp[d8]
 |p::r,acc=>by have h1:=jX p;have h2:=pW r (jE acc (bM p));have h3:=mQ (bM p) acc;simp only[d8,aC.szL]at *;omega
end
mutual
theorem jY(a:Int):∀p:aC,a∈bM p↔a∈eQ p
 |.mk op _ value _ _ _ _ _ _ kids _=>by have h:=A9 a kids (if decide (op.bs=[114,101,97,100]) then gS value [] else []);rw[bM,eQ,h,nQ];cases decide (op.bs=[114,101,97,100])<;>simp[gS]
theorem A9(a:Int):∀(l:List aC)(acc:List Int),a∈d8 acc l↔a∈acc\/a∈iJ l
 |[],acc=>by simp[d8,iJ]
 |p::r,acc=>by have h1:=jY a p;have h2:=A9 a r (jE acc (bM p));rw[d8,h2,vC,h1,iJ,nQ,or_assoc]
end
def iU(q:aH):List Int:=
 if decide (q.kind=3) then
  (let l:=jE (bM q.body) (bM q.index)
   if decide (q.source=q.value) then l else gS q.source l)
 else bM q.body
section
variable{pg:Pg}
theorem TV(s:Nat)(v:AV)(x:Int):∃B,iP 0 s [v,.int .i64 x]=B/\65536<=B/\∀k e o l c,v = .rf k e o l c->k≠B+1/\k≠B+5/\k≠B+9:=by refine⟨_,rfl,?_,?_⟩;simp only[iP];split<;>omega;rintro k e o l c rfl;simp only[iP,List.any_cons,List.any_nil,Bool.or_false];split;rename_i h;simp only[aG,aY]at h;omega;rename_i h;simp only[aG,aY,not_and]at h;omega
theorem FH{f s:Nat}{h:Hp}{k1:Nat}{v:AV}{l:List Int}{x:Int}{Q:AV->Eff->Prop}{t:Tok Q}(hf:pg.fs f=some AF)(o:Own h k1 1 false v (l.map aJ))(hb:l.length<big)
  (q:∀r h' k2,Own h' k2 1 false r ((gS x l).map aJ)->(∀k,k<65536->h'.get k=h.get k)->Q r (.whole h')):XO pg 0 (.call f false true) s h [v,.int .i64 x] Q t:=by
 obtain⟨B,hB,hB1,hB2⟩:=TV s v x;have key:∃k1,Own h k1 1 false v (l.map aJ)/\k1≠B+1/\k1≠B+5/\k1≠B+9:=by
  rcases o with ⟨he,nl,cl,rfl,hc⟩|⟨e,cs,rfl,hg,hu⟩
  exact⟨B,.inl ⟨he,nl,cl,rfl,hc⟩,by omega,by omega,by omega⟩;exact⟨k1,.inr ⟨e,cs,rfl,hg,hu⟩,hB2 _ _ _ _ _ rfl⟩
 obtain⟨k1',o',a1,a5,a9⟩:=key;refine AP (.inl rfl) hB (aOl hf o' hb x a1 a5 a9) ?_;rintro r h' ⟨k2,p1,_,p3⟩;exact q r h' k2 p1 (λk hk=>p3 k (by omega) (by omega) (by omega))
theorem c37(hf:pg.fs 37=some aBj)(h55:pg.fs 55=some AF):∀p:aC,p.ok->p.sz<=big->bE pg 37 [p.av] (nP 1 false ((bM p).map aJ)):=by
 refine aC.ind' λp ih hp hsz=>?_;obtain⟨hb,hk⟩:=(aC.ok_iff p).1 hp;have hz:=aC.sz_eq p;refine bE.ofX hf ?_;unfold aBj;refine Wk ?_;cases hr:decide (p.op.bs=[114,101,97,100])
 case true=>
  refine Wk ?_;refine FH (l:=[]) h55 (Own.nil _ 0 _ _ _ _ rfl) (by decide) ?_;intro v H k1 ho hun;refine Wk ?_;have hres:bM p=d8 (gS p.value []) p.kids:=by rw[zK,hr];rfl
  refine aK p.kids (λd r env hp=>∃v k1,env=AG (.pt 1 0 0) v (.int .i64 d.length)/\Own hp k1 1 false v ((d8 (gS p.value []) d).map aJ)/\hp.get 1=some (0,.blk (tW p p.kids) 9 true true false)) ?_ ?_ ?_;exact⟨v,k1,rfl,ho,(hun 1 (by decide)).trans (by simp only[go_sem,seval];rfl)⟩;rintro env hp ⟨v,k1,rfl,ho,h1⟩;simp only[tW]at h1;simp only[EU,AG,h1,go_sem,seval];rw[hres];exact ho.conv (El.ints _);rintro d x r env hp hes ⟨v,k1,rfl,ho,h1⟩;have hxm:x∈p.kids:=by rw[hes];simp
  have hxs:x.sz<=big:=by have:=aC.szL_mem hxm;omega
  have hx:=ih x hxm (hk x hxm) hxs;have hx':=hx;rw[aC.avc]at hx';have hl1:=pW d (gS p.value []);have hl2:=jX x;have hst:(gS p.value []:List Int).length<=1:=by simp[gS]
  have hzz:aC.szL p.kids=aC.szL d+(x.sz+aC.szL r):=by rw[hes,aC.szL_append,aC.szL]
  rw[hes]at h1 hb;rw[hes];have h0:=h1;simp only[tW]at h1;have hsno:=rU d (gS p.value []) x;have hw:=aW hb;clear ih hk;simp only[EU,AG,h1,go_sem,seval]
  first|refine lQ hx (by simp only[go_sem,seval]) ?_|refine lQ hx' (by simp only[go_sem,seval]) ?_
  intro nl1 cl1 _;refine Wk ?_;refine aK (bM x) (λd2 r2 env hp=>∃v k1,env=AH (.pt 1 0 0) v (.int .i64 d.length) (.sl nl1 ((bM x).map aJ) cl1) (.int .i64 d2.length)/\Own hp k1 1 false v ((jE (d8 (gS p.value []) d) d2).map aJ)/\hp.get 1=some (0,.blk (tW p (d++x::r)) 9 true true false)) ?_ ?_ ?_;exact⟨v,k1,rfl,ho.mono (by simp only[go_sem,seval]),by simp only[go_sem,seval];exact h0⟩;clear ho h1 h0 hp;rintro env hp ⟨v,k1,rfl,ho,h0⟩;simp only[EW,AH,hw,go_sem,seval];rw[hsno];exact⟨v,k1,rfl,ho,h0⟩;clear ho h1 h0 hp;rintro d2 y r2 env hp hes2 ⟨v,k1,rfl,ho,h0⟩;have hd2:d2.length<(bM x).length:=by rw[hes2];simp
  have hget:(bM x)[d2.length]?=some y:=by rw[hes2];simp
  have hpl:=mQ d2 (d8 (gS p.value []) d);have hbb:(jE (d8 (gS p.value []) d) d2).length<big:=by omega
  have f1:decide ((d2.length:Int)<((bM x).length:Int))=true:=by simp;omega
  have f2:((d2.length:Int)<((bM x).length:Int))=True:=eq_true (by omega);have hw2:wr .i64 ((d2.length:Int)+1)=((d2++[y]).length:Int):=aW (r:=r2) (by rw[<-hes2];omega);have hsn2:=wM (d8 (gS p.value []) d) d2 y;simp only[EW,AH,f1,f2,hget,go_sem,seval];refine FH h55 ho hbb ?_;intro r' h' k2 ho' hun;simp only[hw2,go_sem,seval];rw[hsn2];exact⟨r',k2,rfl,ho',(hun 1 (by decide)).trans h0⟩
 case false=>
  refine Wk ?_;have hres:bM p=d8 ([]) p.kids:=by rw[zK,hr];rfl
  refine aK p.kids (λd r env hp=>∃v k1,env=AG (.pt 1 0 0) v (.int .i64 d.length)/\Own hp k1 1 false v ((d8 ([]) d).map aJ)/\hp.get 1=some (0,.blk (tW p p.kids) 9 true true false)) ?_ ?_ ?_;exact⟨_,0,rfl,Own.nil _ _ _ _ _ _ rfl,by simp only[go_sem,seval];rfl⟩;rintro env hp ⟨v,k1,rfl,ho,h1⟩;simp only[tW]at h1;simp only[EU,AG,h1,go_sem,seval];rw[hres];exact ho.conv (El.ints _);rintro d x r env hp hes ⟨v,k1,rfl,ho,h1⟩;have hxm:x∈p.kids:=by rw[hes];simp
  have hxs:x.sz<=big:=by have:=aC.szL_mem hxm;omega
  have hx:=ih x hxm (hk x hxm) hxs;have hx':=hx;rw[aC.avc]at hx';have hl1:=pW d ([]);have hl2:=jX x;have hst:([]:List Int).length<=1:=by simp[gS]
  have hzz:aC.szL p.kids=aC.szL d+(x.sz+aC.szL r):=by rw[hes,aC.szL_append,aC.szL]
  rw[hes]at h1 hb;rw[hes];have h0:=h1;simp only[tW]at h1;have hsno:=rU d ([]) x;have hw:=aW hb;clear ih hk;simp only[EU,AG,h1,go_sem,seval]
  first|refine lQ hx (by simp only[go_sem,seval]) ?_|refine lQ hx' (by simp only[go_sem,seval]) ?_
  intro nl1 cl1 _;refine Wk ?_;refine aK (bM x) (λd2 r2 env hp=>∃v k1,env=AH (.pt 1 0 0) v (.int .i64 d.length) (.sl nl1 ((bM x).map aJ) cl1) (.int .i64 d2.length)/\Own hp k1 1 false v ((jE (d8 ([]) d) d2).map aJ)/\hp.get 1=some (0,.blk (tW p (d++x::r)) 9 true true false)) ?_ ?_ ?_;exact⟨v,k1,rfl,ho.mono (by simp only[go_sem,seval]),by simp only[go_sem,seval];exact h0⟩;clear ho h1 h0 hp;rintro env hp ⟨v,k1,rfl,ho,h0⟩;simp only[EW,AH,hw,go_sem,seval];rw[hsno];exact⟨v,k1,rfl,ho,h0⟩;clear ho h1 h0 hp;rintro d2 y r2 env hp hes2 ⟨v,k1,rfl,ho,h0⟩;have hd2:d2.length<(bM x).length:=by rw[hes2];simp
  have hget:(bM x)[d2.length]?=some y:=by rw[hes2];simp
  have hpl:=mQ d2 (d8 ([]) d);have hbb:(jE (d8 ([]) d) d2).length<big:=by omega
  have f1:decide ((d2.length:Int)<((bM x).length:Int))=true:=by simp;omega
  have f2:((d2.length:Int)<((bM x).length:Int))=True:=eq_true (by omega);have hw2:wr .i64 ((d2.length:Int)+1)=((d2++[y]).length:Int):=aW (r:=r2) (by rw[<-hes2];omega);have hsn2:=wM (d8 ([]) d) d2 y;simp only[EW,AH,f1,f2,hget,go_sem,seval];refine FH h55 ho hbb ?_;intro r' h' k2 ho' hun;simp only[hw2,go_sem,seval];rw[hsn2];exact⟨r',k2,rfl,ho',(hun 1 (by decide)).trans h0⟩
end
end
end Go.Tev
