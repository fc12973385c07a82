import Derived.Test.YtlalckpnpidccaaGreatDoorDAS
set_option linter.all false
namespace Go.Tev
section
section
variable{pg:Pg}
end
end
section
def ZI(l:Lin):Bool:=(l.ts.es.all λc => !decide (35<(c.v.bs.length:Int)))&&decide ((l.ts.es.length:Int)<=14)
def ZJ(s:bL):Bool:=(s.dims.es.all ZI)&&(decide ((s.dims.es.length:Int)<=8)&&decide ((s.row.bs.length:Int)<=35))
def ZL(l:List bF):Bool:=(l.all λs => !(decide (4<(s.args.es.length:Int))||decide (20<(s.op.bs.length:Int))))&&decide ((l.length:Int)<=10)
mutual
def ZK:aF->Bool
 |.mk op _ _ name at_ _ _ fn _ kids _=>HE kids&&(ZJ ⟨⟨[],by decide⟩,at_⟩&&ZL fn.es&&decide ((name.bs.length:Int)<=35)&&decide ((op.bs.length:Int)<=20))
def HE:List aF->Bool
 |[]=>true
 |p::r=>ZK p&&HE r
end
section
variable{pg:Pg}
end
end
section
def cY(q:aI):List Int:=lW q.body++if decide (q.kind=3) then lW q.index++[q.source] else []
theorem qM(p:aF):(lW p).length<=p.sz:=by have e1:=n9 (iI (g8 p));have e2:=nM (g8 p);have e3:=qN p;simp only[lW];omega
section
variable{pg:Pg}{kb:Nat}
end
section
variable{pg:Pg}
end
end
section
abbrev Sp:=Int×Int
def pC(s:Sp):AV:=.agg [.int .i64 s.1,.int .i64 s.2]
def aW:List Sp->List AV
 |[]=>[]
 |s::r => .int .i64 s.1 :: .int .i64 s.2::aW r
theorem eJ:∀l,(aW l).length=l.length*2
 |[]=>rfl
 |s::r=>by simp only[aW,List.length_cons,eJ r];omega
theorem lS:∀l,bG 2 true (l.map pC)=some (aW l)
 |[]=>rfl
 |s::r=>by simp[pC,bG,lS r,AV.fits,aW,AV.cells];rfl
theorem CO(l:List Sp):∀x∈l.map pC,El 2 true x:=by intro x hx;obtain⟨b,_,rfl⟩:=List.mem_map.1 hx;exact⟨rfl,rfl,rfl⟩
theorem sT:∀(l:List Sp)(v:Nat)(s:Sp),l[v]?=some s->(aW l)[v*2]?=some (.int .i64 s.1)/\(aW l)[v*2+1]?=some (.int .i64 s.2)
 |[],v,s,h=>by simp at h
 |t::r,0,s,h=>by simp at h;subst h;exact⟨rfl,rfl⟩
 |t::r,v+1,s,h=>by have:=sT r v s (by simpa using h);rw[show (v+1)*2=v*2+1+1 from by omega];simpa[aW] using this
theorem oH:∀(l:List Sp)(v:Nat)(a b:Int),((aW l).set (v*2) (.int .i64 a)).set (v*2+1) (.int .i64 b)=aW (l.set v (a,b))
 |[],v,a,b=>by simp[aW]
 |t::r,0,a,b=>rfl
 |t::r,v+1,a,b=>by rw[show (v+1)*2=v*2+1+1 from by omega];simp only[aW,List.set_cons_succ];rw[oH r v a b]
theorem oI:∀(l:List Sp)(v:Nat)(a:Int),(aW l).set (v*2) (.int .i64 a)=aW (l.modify v (λs=>(a,s.2)))
 |[],v,a=>by simp[aW]
 |t::r,0,a=>rfl
 |t::r,v+1,a=>by rw[show (v+1)*2=v*2+1+1 from by omega];simp only[aW,List.set_cons_succ,List.modify_succ_cons];rw[oI r v a]
theorem oG:∀(l:List Sp)(v:Nat)(a:Int),(aW l).set (v*2+1) (.int .i64 a)=aW (l.modify v (λs=>(s.1,a)))
 |[],v,a=>by simp[aW]
 |t::r,0,a=>rfl
 |t::r,v+1,a=>by rw[show (v+1)*2=v*2+1+1 from by omega];simp only[aW,List.set_cons_succ,List.modify_succ_cons];rw[oG r v a]
theorem J3{h:Hp}{e:Nat}{sp:List Sp}(hg:h.get 9=some (e,.blk (aW sp) 2 true false false))(d:Nat):Tev.snap (d+2) h (.rf 9 e 0 sp.length sp.length)=some (.sl false (sp.map pC) false,[9]):=by obtain⟨cs',h1,h2,h3,h4⟩:=d8 (CO sp);rw[lS]at h1;cases h1;have h5:=h4 [];rw[List.append_nil,aE]at h5;have ht:treeL (sp.map pC)=true:=aQ (f:=pC) (λs=>by simp[pC,go_sem]) sp;have h6:b7 (Tev.snap (d+1) h) (sp.map pC)=some (sp.map pC,[]):=fH d h ht;rw[sU];simp[hg,h5,h6,AV.tree]
def jE(sp:List Sp)(v:Int)(x:Int):List Sp:=sp.modify v.toNat (λs=>(s.1,x))
def iJ(sp:List Sp)(v:Int)(x:Int):List Sp:=sp.modify v.toNat (λs=>(x,s.2))
def qY(sp:List Sp)(v:Int):Int:=match sp[v.toNat]? with|some s=>s.1|none=>0
def cN(V i:Nat):List Sp:=List.replicate i (-1,-1)++List.replicate (V-i) (-2,-2)
def eM(sp:List Sp)(i:Nat)(l:List Int):List Sp:=l.foldl (λs v=>jE s v i) sp
def qD(sp:List Sp)(i:Nat)(q:aI):List Sp:=
 eM (jE (if decide (qY sp q.value = -2) then iJ sp q.value i else sp) q.value i) i (cY q)
def gR:List Sp->Nat->List aI->List Sp
 |sp,_,[]=>sp
 |sp,i,q::r=>gR (qD sp i q) (i+1) r
def lG(sp:List Sp)(n:Nat)(l:List Int):List Sp:=l.foldl (λs v=>jE s v n) sp
def qC(k:aB):List Sp:=lG (gR (cN k.values.es.length k.inputs.toNat) 0 k.list.es) k.list.es.length k.results.es
theorem kS(sp:List Sp)(v x:Int):(jE sp v x).length=sp.length:=by simp[jE]
theorem j8(sp:List Sp)(v x:Int):(iJ sp v x).length=sp.length:=by simp[iJ]
theorem fF(i:Nat):∀(l:List Int)(sp:List Sp),(eM sp i l).length=sp.length
 |[],sp=>rfl
 |v::r,sp=>by simp only[eM,List.foldl_cons];exact(fF i r _).trans (kS _ _ _)
theorem mN(sp:List Sp)(i:Nat)(d:List Int)(x:Int):eM sp i (d++[x])=jE (eM sp i d) x i:=by simp[eM]
theorem AW(sp:List Sp)(i:Nat)(q:aI):(qD sp i q).length=sp.length:=by simp only[qD,fF,kS];split<;>simp[j8]
theorem kR:∀(l:List aI)(sp:List Sp)(i:Nat),(gR sp i l).length=sp.length
 |[],sp,i=>rfl
 |q::r,sp,i=>by rw[gR,kR r,AW]
theorem qE:∀(d:List aI)(sp:List Sp)(i:Nat)(q:aI),gR sp i (d++[q])=qD (gR sp i d) (i+d.length) q
 |[],sp,i,q=>rfl
 |x::r,sp,i,q=>by simp only[List.cons_append,gR,qE r,List.length_cons];congr 1;omega
theorem gY{V i:Nat}(h:i<=V):(cN V i).length=V:=by simp[cN];omega
theorem AX{V i:Nat}(h:i<V):(cN V i).set i (-1,-1)=cN V (i+1):=by
 obtain⟨m,rfl⟩:∃m,V=i+(m+1):=⟨V-i-1,by omega⟩
 simp only[cN];rw[List.set_append_right _ _ (by simp)];have e1:i+(m+1)-i=m+1:=by omega
 have e2:i+(m+1)-(i+1)=m:=by omega
 rw[e1,e2,List.replicate_succ (n:=m),List.replicate_succ' (n:=i)];simp
theorem iP{k:aB}{th:List Bool}{p:aF}{n:Nat}{nt:Int}(h:kT k th p n nt=true):∀a∈lW p,0<=a/\a<k.values.es.length/\iY th a=true/\a≠nt:=by intro a ha;simp only[kT,FZ,aA,c7]at h;have h2:=h.2;rw[List.any_eq_false]at h2;have h3:=h2 a ha;simp only[Bool.or_eq_true,c7,bH,not_or,Bool.not_eq_false]at h3;have ha':=ha;simp only[lW,tG,tE]at ha';obtain⟨h4,h5⟩:=x9 _ p _ h.1.2 a ha';exact⟨h4,h5,h3.1,h3.2⟩
theorem qV{k:aB}{th:List Bool}{q:aI}{i:Nat}(h:iC k th q i=true):∀a∈cY q,0<=a/\a<k.values.es.length/\iY th a=true:=by
 intro a ha;simp only[iC,aA]at h;obtain⟨_,h⟩:=h;split at h;cases h;rename_i t ht;simp only[aA,c7]at h;obtain⟨⟨⟨⟨_,_⟩,h3⟩,_⟩,h5⟩:=h;simp only[cY,fK]at ha;simp only[OP]at h5;split at h5;rename_i h6;simp only[aA]at h5;have h7:decide (q.kind=3)=false:=by simp at h6 ⊢;omega
 rw[h7]at ha;rcases ha with ha|ha;obtain⟨x1,x2,x3,_⟩:=iP h5.2 a ha;exact⟨x1,x2,x3⟩;simp at ha;split at h5;rename_i h6;simp only[aA]at h5;have h7:decide (q.kind=3)=false:=by simp at h6 ⊢;omega
 rw[h7]at ha;rcases ha with ha|ha;obtain⟨x1,x2,x3,_⟩:=iP h5.2 a ha;exact⟨x1,x2,x3⟩;simp at ha;split at h5;rename_i h6;simp only[aA]at h5;rw[if_pos h6]at h3 ha;rcases ha with ha|ha;obtain⟨x1,x2,x3,_⟩:=iP h5.1 a ha;exact⟨x1,x2,x3⟩;rw[fK]at ha;rcases ha with ha|ha;obtain⟨x1,x2,x3,_⟩:=iP h5.2 a ha;exact⟨x1,x2,x3⟩;simp only[List.mem_singleton]at ha;subst ha;simp only[ON,Bool.or_eq_false_iff,gO,Bool.not_eq_false']at h3;exact⟨by omega,by omega,h3.1.2⟩;cases h5
theorem sY{k:aB}:∀(l:List aI)(th:List Bool)(i:Nat),J7 k th l i=none->∀d q r,l=d++q::r->iC k (pF th d) q (i+d.length)=true
 |[],th,i,_,d,q,r,he=>by cases d<;>simp at he
 |x::l,th,i,h,d,q,r,he=>by
  simp only[J7]at h;split at h;rename_i hx;cases d with
  |nil=>simp at he;obtain⟨rfl,rfl⟩:=he;exact hx
  |cons y d=>simp at he;obtain⟨rfl,rfl⟩:=he;have:=sY _ _ _ h d q r rfl;rw[List.length_cons,show i+(d.length+1)=i+1+d.length from by omega];exact this
  cases h
structure XP(k:aB):Prop where
 out:nQ k=true
 ker:∀d q r,k.list.es=d++q::r->iC k (pF (KP k) d) q d.length=true
 res:∀v∈k.results.es,0<=v/\v<k.values.es.length/\iY (pF (KP k) k.list.es) v=true
 one:0<k.results.es.length
theorem EU{k:aB}(h:(oV k).2=0):XP k:=by simp only[oV]at h;split at h;rename_i ho;split at h;simp at h;rename_i hr;split at h;simp at h;rename_i hb;simp only[qJ,Bool.or_eq_true,not_or,Bool.not_eq_true,bH,gO,List.any_eq_false]at hb;obtain⟨⟨h1,h2⟩,h3⟩:=hb;refine⟨ho,λd q r he=>by simpa using sY _ _ _ hr d q r he,λv hv=>?_,by omega⟩;have h4:=h3 v hv;simp only[vO,Bool.or_eq_false_iff,gO,Bool.not_eq_false',not_or,Bool.not_eq_true,Bool.or_eq_true,bH]at h4;obtain⟨⟨x1,x2⟩,x3⟩:=h4;exact⟨by omega,by omega,by simpa using x3⟩;simp at h
theorem ET{k:aB}:(oV k).2=0\/(oV k).2=22:=by simp only[oV];split;split;exact .inr rfl;split;exact .inr rfl;exact .inl rfl;exact .inr rfl
end
section
def AU(k:aB)(r:AV):Prop:=
 if (oV k).2=0 then r = .tup [.sl false ((qC k).map pC) false,.int .i64 0] else r = .tup [.sl true [] true,.int .i64 22]
theorem J6{l:List AV}{n:Nat}(x y:AV)(h:n*2+1<l.length):List.take (0+n*2) l++[x,y]++List.drop (0+n*2+2) l=(l.set (n*2) x).set (n*2+1) y:=by
 obtain⟨a,u,v,m,rfl,ha⟩:∃a u v m,l=a++u::v::m/\a.length=n*2:=by refine⟨l.take (n*2),l[n*2],l[n*2+1],l.drop (n*2+1+1),?_,by simp;omega⟩;rw[<-j5 h,<-j5 (by omega),List.take_append_drop]
 rw[Nat.zero_add,<-ha];simp[List.set_append]
theorem CP{l:List AV}{n:Nat}(x:AV)(h:n<l.length):List.take n l++[x]++List.drop (n+1) l=l.set n x:=by rw[List.set_eq_take_append_cons_drop,if_pos h];simp
theorem yF(sp:List Sp)(v x:Int)(h:v.toNat<sp.length):List.take (0+v.toNat*2+1) (aW sp)++[.int .i64 x]++List.drop (0+v.toNat*2+1+1) (aW sp)=aW (jE sp v x):=by rw[Nat.zero_add,CP _ (by rw[eJ];omega),oG];rfl
theorem J0(sp:List Sp)(v x:Int)(h:v.toNat<sp.length):List.take (0+v.toNat*2+0) (aW sp)++[.int .i64 x]++List.drop (0+v.toNat*2+0+1) (aW sp)=aW (iJ sp v x):=by rw[Nat.zero_add,Nat.add_zero,CP _ (by rw[eJ];omega),oI];rfl
theorem zA(sp:List Sp)(v:Int)(h:v.toNat<sp.length):(0+v.toNat*2+1+1<=(aW sp).length)=True:=eq_true (by rw[eJ];omega)
theorem KK(sp:List Sp)(v:Int)(h:v.toNat<sp.length):(0+v.toNat*2+0+1<=(aW sp).length)=True:=eq_true (by rw[eJ];omega)
theorem KL(sp:List Sp)(v:Int)(h:v.toNat<sp.length):(aW sp)[0+v.toNat*2+0]?=some (.int .i64 (qY sp v)):=by
 obtain⟨s,hs⟩:∃s,sp[v.toNat]?=some s:=⟨_,aY h⟩
 rw[Nat.zero_add,Nat.add_zero,(sT sp _ s hs).1];simp[qY,hs]
section
variable{pg:Pg}
theorem c9 (hf:pg.fs 9=some cf9) (h28:∀k:aB,(k.vars.nl=true->k.vars.es=[])->(∀q∈k.list.es,q.body.ok/\q.index.ok/\k.vars.es.length+9+q.body.sz<=big/\k.vars.es.length+9+q.index.sz<=big) ->
   Ret pg 28 [k.av] (.tup [.int .i64 (oV k).1,.int .i64 (oV k).2]))
  (h29:∀(nl cl:Bool)(a b:Int)(n:Nat),n<=big->fT pg 29 [.sl nl [.agg [.int .i64 a,.int .i64 b]] cl,.int .i64 n] (x7 2 true (List.replicate n (.agg [.int .i64 a,.int .i64 b]))))
  (h30:∀q:aI,q.body.ok->q.index.ok->q.body.sz+q.index.sz+1<=big->fT pg 30 [q.av] (x7 1 false ((cY q).map aZ)))
  (k:aB) (hnl:k.vars.nl=true->k.vars.es=[]) (hq:∀q∈k.list.es,q.body.ok/\q.index.ok/\k.vars.es.length+9+q.body.sz<=big/\k.vars.es.length+9+q.index.sz<=big) (hq2:∀q∈k.list.es,q.body.sz+q.index.sz+1<=big) :
  fT pg 9 [k.av] (AU k):=by
 have a1:=h28 k hnl hq;have hVb:=k.values.ok;have a2:=h29 false true (-2) (-2) k.values.es.length hVb;clear h28 h29;refine fT.ofX hf ?_;unfold cf9;simp only[aB.av,aB.cells,go_sem,seval];refine bQ a1 (by simp only[aB.av,aB.cells,go_sem,seval]) rfl ?_;rcases ET (k:=k) with hc|hc;have ok:=EU hc;have hso:=ok.out;simp only[nQ,aA,bH]at hso;obtain⟨_,⟨⟨⟨⟨⟨⟨_,_⟩,hi0⟩,_⟩,hiV⟩,_⟩,_⟩,_⟩:=hso;have hV:0<k.values.es.length:=by obtain⟨v,hv⟩:=List.exists_mem_of_length_pos ok.one;have:=ok.res v hv;omega
 have hsp0:List.replicate k.values.es.length (AV.agg [.int .i64 (-2),.int .i64 (-2)])=(cN k.values.es.length 0).map pC:=by simp[cN,pC]
 have hl0:(cN k.values.es.length 0).length=k.values.es.length:=gY (Nat.zero_le _);rw[hsp0]at a2;rw[hc];refine Wk ?_;refine N6 a2 (by simp only[go_sem,seval]) (CO _) (λhe=>?_) (λcs hcs _=>?_);have:=congrArg List.length he;rw[aE,hl0,List.length_nil]at this;omega;rw[lS]at hcs;cases hcs;rw[aE,hl0];generalize hE:Hp.next _ (0+9)=E;clear hE a1 a2;obtain⟨ins,hins⟩:∃n:Nat,k.inputs=n:=⟨k.inputs.toNat,by omega⟩
 have hinV:ins<=k.values.es.length:=by omega
 have hins':k.inputs.toNat=ins:=by omega
 refine Wk ?_
 refine bD (List.range ins) (λd r env hp=>env=IT (.pt 1 0 0) (.rf 9 E 0 k.values.es.length k.values.es.length) (.int .i64 k.inputs) (.int .i64 d.length) /\
  hp.get 1=some (0,.blk k.cells 6 true true false)/\hp.get 9=some (E,.blk (aW (cN k.values.es.length d.length)) 2 true false false)) ?_ ?_ ?_
 refine⟨rfl,?_,?_⟩;refine Wk ?_;rfl;simp only[go_sem,seval];rintro env hp ⟨rfl,g1,g9⟩;have hr:(List.range ins).length=ins:=List.length_range;rw[hr]at g9 ⊢;have e1:decide ((ins:Int)<k.inputs)=false:=by simp;omega
 have g1':=g1;simp only[aB.cells,Sl.av]at g1;simp only[IP,IT,e1,g1,go_sem,seval]
 refine bD k.list.es (λd r env hp=>env=IR (.pt 1 0 0) (.rf 9 E 0 k.values.es.length k.values.es.length) (.sl k.list.nl (k.list.es.map aI.av) k.list.cl) (.int .i64 k.list.es.length) (.int .i64 d.length) /\
  hp.get 1=some (0,.blk k.cells 6 true true false)/\hp.get 9=some (E,.blk (aW (gR (cN k.values.es.length ins) 0 d)) 2 true false false)) ?_ ?_ ?_
 exact⟨rfl,g1',g9⟩;clear g9 g1 g1' hp;rintro env hp ⟨rfl,g1,g9⟩;have g1':=g1;simp only[aB.cells,Sl.av]at g1;simp only[IM,IR,g1,go_sem,seval]
 refine bD k.results.es (λd r env hp=>env=IQ (.pt 1 0 0) (.rf 9 E 0 k.values.es.length k.values.es.length) (.sl k.results.nl (k.results.es.map aZ) k.results.cl) (.int .i64 k.results.es.length) (.int .i64 d.length) /\
  hp.get 1=some (0,.blk k.cells 6 true true false)/\hp.get 9=some (E,.blk (aW (lG (gR (cN k.values.es.length ins) 0 k.list.es) k.list.es.length d)) 2 true false false)) ?_ ?_ ?_
 exact⟨rfl,g1',g9⟩;clear g9 g1 g1' hp;rintro env hp ⟨rfl,g1,g9⟩;have hlen:(qC k).length=k.values.es.length:=by simp only[qC];rw[show lG=λsp n l=>eM sp n l from rfl];rw[fF,kR,hins',gY hinV]
 have hspk:lG (gR (cN k.values.es.length ins) 0 k.list.es) k.list.es.length k.results.es=qC k:=by rw[qC,hins']
 rw[hspk]at g9;have hsn:=J3 g9 61;rw[hlen]at hsn;simp only[IL,IQ,go_sem,seval];simp only[Tev.conv,depth,sU,kH,jG,↓hsn,go_sem];rw[AU,if_pos hc];clear g9 g1 g1' hp;rintro d v r env hp hes ⟨rfl,g1,g9⟩;obtain⟨v1,v2,_⟩:=ok.res v (by rw[hes];simp);have hrb:=k.results.ok;rw[hes]at hrb;have hget:k.results.es[d.length]?=some v:=by rw[hes];simp
 have hlt:d.length<k.results.es.length:=by rw[hes];simp
 have e1:decide ((d.length:Int)<(k.results.es.length:Int))=true:=by simp;omega
 have e2:((d.length:Int)<(k.results.es.length:Int))=True:=eq_true (by omega);have v1':(0<=v)=True:=eq_true v1;have v2':(v<(k.values.es.length:Int))=True:=eq_true v2;have g1':=g1;simp only[aB.cells,Sl.av]at g1;have hln:(lG (gR (cN k.values.es.length ins) 0 k.list.es) k.list.es.length d).length=k.values.es.length:=by rw[show lG=λsp n l=>eM sp n l from rfl];rw[fF,kR,gY hinV]
 have hvl:v.toNat<(lG (gR (cN k.values.es.length ins) 0 k.list.es) k.list.es.length d).length:=by rw[hln];omega
 have hsno:jE (lG (gR (cN k.values.es.length ins) 0 k.list.es) k.list.es.length d) v k.list.es.length=lG (gR (cN k.values.es.length ins) 0 k.list.es) k.list.es.length (d++[v]):=by simp[lG]
 simp only[IL,IQ,e1,e2,g1,g9,hget,v1',v2',zA _ v hvl,yF _ v _ hvl,bI hrb,hsno,go_sem,seval];exact⟨rfl,rfl⟩;clear g9 g1 g1' hp;rintro d q r env hp hes ⟨rfl,g1,g9⟩;obtain⟨v0,v2,_⟩:=zB (ok.ker d q r hes);have hlb:=k.list.ok;rw[hes]at hlb;have hget:k.list.es[d.length]?=some q:=by rw[hes];simp
 have hlt:d.length<k.list.es.length:=by rw[hes];simp
 have e1:decide ((d.length:Int)<(k.list.es.length:Int))=true:=by simp;omega
 have e2:((d.length:Int)<(k.list.es.length:Int))=True:=eq_true (by omega);have v1':(0<=q.value)=True:=eq_true (by omega);have v2':(q.value<(k.values.es.length:Int))=True:=eq_true v2;obtain⟨p1,p2,_,_⟩:=hq q (by rw[hes];simp);have a3:=h30 q p1 p2 (hq2 q (by rw[hes];simp));rw[aI.avc]at a3;have hrd:=qV (ok.ker d q r hes);have hrlen:(cY q).length<=big:=by have z1:=hq2 q (by rw[hes];simp);have z2:=qM q.body;have z3:=qM q.index;simp only[cY,bW];split<;>simp<;>omega
 have hrun:=qE d (cN k.values.es.length ins) 0 q;rw[Nat.zero_add]at hrun;rw[hrun];have hln:(gR (cN k.values.es.length ins) 0 d).length=k.values.es.length:=by rw[kR,gY hinV]
 generalize gR (cN k.values.es.length ins) 0 d=sp at g9 hln ⊢;have hvl:q.value.toNat<sp.length:=by omega
 have hvl2:q.value.toNat<(iJ sp q.value d.length).length:=by rw[j8];exact hvl
 have hst:qD sp d.length q=eM (jE (if decide (qY sp q.value = -2) then iJ sp q.value d.length else sp) q.value d.length) d.length (cY q):=rfl;rw[hst];clear hst hrun h30 hq hq2;simp only[IM,IR,e1,e2,g9,hget,v1',v2',KL sp q.value hvl,go_sem,seval];cases hfr:decide (qY sp q.value = -2)
 case true=>
  simp only[g9,v1',v2',KK sp _ hvl,J0 sp _ _ hvl,zA _ _ hvl2,yF _ _ _ hvl2,go_sem,seval];refine JJ a3 (by simp only[go_sem,seval]) ?_;intro nl3 cl3 _;refine Wk ?_
  refine bD (cY q) (λd2 r2 env hp=>env=uG (.pt 1 0 0) (.rf 9 E 0 k.values.es.length k.values.es.length) (.int .i64 d.length) (.sl k.list.nl (k.list.es.map aI.av) k.list.cl) (.int .i64 k.list.es.length) (.int .i64 d.length) (.sl nl3 ((cY q).map aZ) cl3) (.int .i64 (cY q).length) (.int .i64 d2.length) /\
   hp.get 1=some (0,.blk k.cells 6 true true false)/\hp.get 9=some (E,.blk (aW (eM (jE (iJ sp q.value d.length) q.value d.length) d.length d2)) 2 true false false)) ?_ ?_ ?_
  refine⟨rfl,?_,?_⟩;refine Wk ?_;exact g1;refine Wk ?_;rfl;clear g9 g1 hp;rintro env hp ⟨rfl,g1,g9⟩;simp only[zV,uG,bI hlb,go_sem,seval]
  first|exact⟨rfl,g1,g9⟩
  clear g9 g1 hp;rintro d2 v r2 env hp hes2 ⟨rfl,g1,g9⟩;obtain⟨w1,w2,_⟩:=hrd v (by rw[hes2];simp);have hget2:(cY q)[d2.length]?=some v:=by rw[hes2];simp
  have hlt2:d2.length<(cY q).length:=by rw[hes2];simp
  have f1:decide ((d2.length:Int)<((cY q).length:Int))=true:=by simp;omega
  have f2:((d2.length:Int)<((cY q).length:Int))=True:=eq_true (by omega);have w1':(0<=v)=True:=eq_true w1;have w2':(v<(k.values.es.length:Int))=True:=eq_true w2;have hvl3:v.toNat<(eM (jE (iJ sp q.value d.length) q.value d.length) d.length d2).length:=by rw[fF,kS];rw[j8];omega
  have hrb2:(d2++v::r2).length<=big:=by rw[<-hes2];exact hrlen
  simp only[zV,uG,f1,f2,g9,hget2,w1',w2',zA _ v hvl3,yF _ v _ hvl3,bI hrb2,go_sem,seval];rw[mN]
  first|exact⟨rfl,g1,rfl⟩|exact g1
 case false=>
  simp only[g9,v1',v2',zA _ _ hvl,yF _ _ _ hvl,go_sem,seval];refine JJ a3 (by simp only[go_sem,seval]) ?_;intro nl3 cl3 _;refine Wk ?_
  refine bD (cY q) (λd2 r2 env hp=>env=uG (.pt 1 0 0) (.rf 9 E 0 k.values.es.length k.values.es.length) (.int .i64 d.length) (.sl k.list.nl (k.list.es.map aI.av) k.list.cl) (.int .i64 k.list.es.length) (.int .i64 d.length) (.sl nl3 ((cY q).map aZ) cl3) (.int .i64 (cY q).length) (.int .i64 d2.length) /\
   hp.get 1=some (0,.blk k.cells 6 true true false)/\hp.get 9=some (E,.blk (aW (eM (jE sp q.value d.length) d.length d2)) 2 true false false)) ?_ ?_ ?_
  refine⟨rfl,?_,?_⟩;refine Wk ?_;exact g1;refine Wk ?_;rfl;clear g9 g1 hp;rintro env hp ⟨rfl,g1,g9⟩;simp only[zV,uG,bI hlb,go_sem,seval]
  first|exact⟨rfl,g1,g9⟩
  clear g9 g1 hp;rintro d2 v r2 env hp hes2 ⟨rfl,g1,g9⟩;obtain⟨w1,w2,_⟩:=hrd v (by rw[hes2];simp);have hget2:(cY q)[d2.length]?=some v:=by rw[hes2];simp
  have hlt2:d2.length<(cY q).length:=by rw[hes2];simp
  have f1:decide ((d2.length:Int)<((cY q).length:Int))=true:=by simp;omega
  have f2:((d2.length:Int)<((cY q).length:Int))=True:=eq_true (by omega);have w1':(0<=v)=True:=eq_true w1;have w2':(v<(k.values.es.length:Int))=True:=eq_true w2;have hvl3:v.toNat<(eM (jE sp q.value d.length) d.length d2).length:=by rw[fF,kS];omega
  have hrb2:(d2++v::r2).length<=big:=by rw[<-hes2];exact hrlen
  simp only[zV,uG,f1,f2,g9,hget2,w1',w2',zA _ v hvl3,yF _ v _ hvl3,bI hrb2,go_sem,seval];rw[mN]
  first|exact⟨rfl,g1,rfl⟩|exact g1
 rintro d x r env hp hes ⟨rfl,g1,g9⟩;obtain⟨hx,hlt⟩:=fY hes;have hb2:(d++x::r).length<=big:=by rw[<-hes];simp;omega
 have hlen:(cN k.values.es.length d.length).length=k.values.es.length:=gY (by omega);have e1:decide ((d.length:Int)<k.inputs)=true:=by simp;omega
 have e2:((d.length:Int)<(k.values.es.length:Int))=True:=eq_true (by omega);have e3:(0+d.length*2+2<=(aW (cN k.values.es.length d.length)).length)=True:=eq_true (by rw[eJ,hlen];omega);have e4:=J6 (l:=aW (cN k.values.es.length d.length)) (n:=d.length) (.int .i64 (-1)) (.int .i64 (-1)) (by rw[eJ,hlen];omega);rw[oH,AX (by omega)]at e4;simp only[IP,IT,e1,e2,g9,e3,e4,bI hb2,go_sem,seval];rw[bW];exact⟨rfl,g1,rfl⟩;rw[hc];refine Wk ?_;rw[AU,hc];rfl
end
end
section
section
variable{pg:Pg}
end
end
end Go.Tev
