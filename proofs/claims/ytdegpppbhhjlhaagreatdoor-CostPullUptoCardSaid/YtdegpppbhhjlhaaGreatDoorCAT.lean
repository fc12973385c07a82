import Derived.Test.YtdegpppbhhjlhaaGreatDoorCAS
set_option linter.all false
namespace Go.Tev
section
section
variable{pg:Pg}
end
end
section
def AH(l:Lin):Bool:=(l.ts.es.all λc => !decide (35<(c.v.bs.length:Int)))&&decide ((l.ts.es.length:Int)<=14)
def JI(s:bV):Bool:=(s.dims.es.all AH)&&(decide ((s.dims.es.length:Int)<=8)&&decide ((s.row.bs.length:Int)<=35))
def AJ(l:List aE):Bool:=(l.all λs => !(decide (4<(s.args.es.length:Int))||decide (20<(s.op.bs.length:Int))))&&decide ((l.length:Int)<=10)
def kH(p:aA)(l:List aA):List AV:=
 [.str p.op.bs,.int .i64 p.num,.int .i64 p.value,.str p.name.bs,.sl p.at_.nl (p.at_.es.map Lin.av) p.at_.cl,.bool p.dyn,.int .i64 p.check,.sl p.fn.nl (p.fn.es.map aE.av) p.fn.cl,.sl p.knl (l.map aA.av) p.kcl]
mutual
def i8:aA->Bool
 |.mk op _ _ name at_ _ _ fn _ kids _=>AI kids&&(JI ⟨⟨[],by decide⟩,at_⟩&&AJ fn.es&&decide ((name.bs.length:Int)<=35)&&decide ((op.bs.length:Int)<=20))
def AI:List aA->Bool
 |[]=>true
 |p::r=>i8 p&&AI r
end
theorem vS:∀l,AI l=l.all i8
 |[]=>by simp[AI]
 |p::r=>by simp[AI,vS r]
theorem JJ(p:aA):i8 p=(p.kids.all i8&&(JI ⟨⟨[],by decide⟩,p.at_⟩&&AJ p.fn.es&&decide ((p.name.bs.length:Int)<=35)&&decide ((p.op.bs.length:Int)<=20))):=by cases p;rw[i8,vS];rfl
def qJ(p:aA):Bool:=decide (kX p<=60)&&i8 p
section
variable{pg:Pg}
theorem c56(hf:pg.fs 56=some KQ)(l:Lin):Ret pg 56 [l.av] (.bool (AH l)):=by have hb:=l.ts.ok;refine Ret.ofX hf ?_;unfold KQ;refine Wk ?_;refine eO l.ts.es (λd e=>eI e (some 3) (.int .i64 d.length)) (λd r hp=>hp.get 1=some (0,.blk [.int .i64 l.c,.sl l.ts.nl (l.ts.es.map bE.av) l.ts.cl] 2 true true false)/\(l.ts.es.all λc => !decide (35<(c.v.bs.length:Int)))=(r.all λc => !decide (35<(c.v.bs.length:Int)))) rfl ?_ ?_ ?_;simp only[go_sem,seval];rintro hp ⟨h1,hI⟩;simp only[NC,NB,h1,go_sem,seval];simp[AH,hI];rintro d x r hp hes ⟨h1,hI⟩;rw[hes]at hb hI h1;have h0:=h1;rw[hes];simp only[NC,NB,h1,go_sem,seval];cases hd:decide (35<(x.v.bs.length:Int));simp only[cL hb,go_sem,seval];exact⟨h0,by simpa[hd] using hI⟩;refine Wk ?_;simp only[AH,hes,hI,List.all_cons,hd];rfl
theorem c42(hf:pg.fs 42=some NL)(h56:pg.fs 56=some KQ)(s:bV):Ret pg 42 [s.av] (.bool (JI s)):=by
 have hb:=s.dims.ok;refine Ret.ofX hf ?_;unfold NL;refine Wk ?_;refine eO s.dims.es (λd e=>eI e (some 3) (.int .i64 d.length)) (λd r hp=>hp.get 1=some (0,.blk [.str s.row.bs,.sl s.dims.nl (s.dims.es.map Lin.av) s.dims.cl] 2 true true false)/\(s.dims.es.all AH)=(r.all AH)) rfl ?_ ?_ ?_;simp only[go_sem,seval]
 ·rintro hp ⟨h1,hI⟩
  repeat' (first|simp only[NK,NJ,h1, *,go_sem,seval]|refine cH (λ_=>?_) (λ_=>?_)|refine cJ (λ_=>?_) (λ_=>?_)|refine cB ?_)
  all_goals (simp_all [JI])
  all_goals (intro h;omega)
 rintro d x r hp hes ⟨h1,hI⟩;have hx:=c56 h56 x;rw[Lin.avc]at hx;rw[hes]at hb hI h1;have h0:=h1;rw[hes];simp only[NK,NJ,h1,go_sem,seval];refine aC (hx) ?_;cases hd:AH x;refine Wk ?_;simp only[JI,hes,hI,List.all_cons,hd];rfl;simp only[cL hb,go_sem,seval];exact⟨h0,by simpa[hd] using hI⟩
theorem c26(hf:pg.fs 26=some NX)(nl cl:Bool)(l:List aE)(hb:l.length<=big):Ret pg 26 [.sl nl (l.map aE.av) cl] (.bool (AJ l)):=by
 refine Ret.ofX hf ?_;unfold NX;refine Wk ?_;refine eO l (λd e=>eI e (some 3) (.int .i64 d.length)) (λd r hp=>(l.all λs => !(decide (4<(s.args.es.length:Int))||decide (20<(s.op.bs.length:Int))))=(r.all λs => !(decide (4<(s.args.es.length:Int))||decide (20<(s.op.bs.length:Int))))) rfl ?_ ?_ ?_;rfl
 ·rintro hp hI
  repeat' (first|simp only[NW,NV, *,go_sem,seval]|refine cH (λ_=>?_) (λ_=>?_)|refine cJ (λ_=>?_) (λ_=>?_)|refine cB ?_)
  all_goals (simp_all [AJ])
 rintro d x r hp hes hI;rw[hes]at hb hI;rw[hes];simp only[NW,NV,go_sem,seval];cases hd:decide (4<(x.args.es.length:Int));refine Wk ?_;cases hd2:decide (20<(x.op.bs.length:Int));simp only[cL hb,go_sem,seval];simpa[hd,hd2] using hI;refine Wk ?_;simp only[AJ,hes,hI,List.all_cons,hd,hd2];rfl;refine Wk ?_;simp only[AJ,hes,hI,List.all_cons,hd];rfl
theorem c40(hf:pg.fs 40=some NQ):∀p:aA,p.ok->Ret pg 40 [p.av] (.int .i64 (kX p)):=by refine aA.ind' λp ih hp=>?_;obtain⟨hb,hk⟩:=(aA.ok_iff p).1 hp;refine Ret.ofX hf ?_;unfold NQ;refine Wk ?_;refine eO p.kids (λd e=>eI (eI e (some 4) (.int .i64 d.length)) (some 3) (.int .i64 (jS 1 d))) (λd r hp=>hp.get 1=some (0,.blk p.cells 9 true true false)) (by simp only[jS];rfl) ?_ ?_ ?_;refine Wk ?_;rfl;rintro hp h1;simp only[aA.cells,Sl.av,aA.kav]at h1;simp only[NP,NO,h1,go_sem,seval];exact(CO p).symm;rintro d x r hp hes h1;have h0:=h1;simp only[aA.cells,Sl.av,aA.kav]at h1;have hx:=ih x (by rw[hes];simp) (hk x (by rw[hes];simp));rw[hes]at hb h1;rw[hes];have h2:hp.get 1=some (0,.blk [.str p.op.bs,.int .i64 p.num,.int .i64 p.value,.str p.name.bs,.sl p.at_.nl (p.at_.es.map Lin.av) p.at_.cl,.bool p.dyn,.int .i64 p.check,.sl p.fn.nl (p.fn.es.map aE.av) p.fn.cl,.sl p.knl ((d++x::r).map aA.av) p.kcl] 9 true true false):=h1;simp only[NP,NO,h2,go_sem,seval];refine aC (hx) ?_;simp only[cL hb,qC,go_sem,seval];exact h0
theorem c41(hf:pg.fs 41=some RR)(h42:pg.fs 42=some NL)(h56:pg.fs 56=some KQ)(h26:pg.fs 26=some NX):∀p:aA,p.ok->Ret pg 41 [p.av] (.bool (i8 p)):=by
 refine aA.ind' λp ih hp=>?_;obtain⟨hb,hk⟩:=(aA.ok_iff p).1 hp;have a1:=c42 h42 h56 ⟨⟨[],by decide⟩,p.at_⟩;have a2:=c26 h26 p.fn.nl p.fn.cl p.fn.es p.fn.ok;rw[bV.avc]at a1;refine Ret.ofX hf ?_;unfold RR;refine Wk ?_;refine eO p.kids (λd e=>eI e (some 3) (.int .i64 d.length)) (λd r hp=>hp.get 1=some (0,.blk (kH p p.kids) 9 true true false)/\p.kids.all i8=r.all i8) rfl ?_ ?_ ?_;exact⟨by simp only[go_sem,seval];rfl,rfl⟩
 ·rintro hp ⟨h1,hI⟩;simp only[kH]at h1
  repeat' (first|simp only[NN,NM, *,go_sem,seval]|refine cH (λ_=>?_) (λ_=>?_)|refine cJ (λ_=>?_) (λ_=>?_)|(refine aC a1 ?_)|(refine aC a2 ?_)|refine cB ?_)
  all_goals (clear h1 a1 a2 hf h42 h56 h26 ih)
  all_goals (rw[JJ,hI])
  all_goals (simp_all)
  all_goals (try (intros;omega))
 rintro d x r hp hes ⟨h1,hI⟩;have hx:=ih x (by rw[hes];simp) (hk x (by rw[hes];simp));have hI2:=hI;rw[hes]at hb hI h1;have h0:=h1;simp only[kH]at h1;rw[hes];have hx':=hx;rw[aA.avc]at hx';simp only[NN,NM,h1,go_sem,seval]
 first|refine aC hx ?_|refine aC hx' ?_
 cases hd:i8 x;refine Wk ?_;rw[JJ,hI2,List.all_cons,hd];rfl;simp only[cL hb,go_sem,seval];exact⟨h0,by rw[hI,List.all_cons,hd];rfl⟩
theorem c25(hf:pg.fs 25=some VQ)(h40:pg.fs 40=some NQ)(h41:pg.fs 41=some RR)(h42:pg.fs 42=some NL)(h56:pg.fs 56=some KQ)(h26:pg.fs 26=some NX)(p:aA)(hp:p.ok):Ret pg 25 [p.av] (.bool (qJ p)):=by
 have a1:=c40 h40 p hp;have a2:=c41 h41 h42 h56 h26 p hp;rw[aA.avc]at a1 a2;refine Ret.ofX hf ?_;unfold VQ
 repeat' (first|simp only[*,go_sem,seval]|refine cH (λ_=>?_) (λ_=>?_)|refine cJ (λ_=>?_) (λ_=>?_)|(refine aC a1 ?_)|(refine aC a2 ?_)|refine cB ?_)
 all_goals (simp_all [qJ])
 all_goals (try (intros;omega))
end
end
section
def fF(q:aK):List Int:=jQ q.body++if decide (q.kind=3) then jQ q.index++[q.source] else []
theorem zH(p:aA):(jQ p).length<=p.sz:=by have e1:=rE (mL (jC p));have e2:=qU (jC p);have e3:=sM p;simp only[jQ];omega
section
variable{pg:Pg}{kb:Nat}
end
section
variable{pg:Pg}
end
end
section
abbrev Sp:=Int×Int
def xP(s:Sp):AV:=.agg [.int .i64 s.1,.int .i64 s.2]
def bM:List Sp->List AV
 |[]=>[]
 |s::r => .int .i64 s.1 :: .int .i64 s.2::bM r
theorem iG:∀l,(bM l).length=l.length*2
 |[]=>rfl
 |s::r=>by simp only[bM,List.length_cons,iG r];omega
theorem sJ:∀l,aV 2 true (l.map xP)=some (bM l)
 |[]=>rfl
 |s::r=>by simp[xP,aV,sJ r,AV.fits,bM,AV.cells];rfl
theorem OK(l:List Sp):∀x∈l.map xP,El 2 true x:=by intro x hx;obtain⟨b,_,rfl⟩:=List.mem_map.1 hx;exact⟨rfl,rfl,rfl⟩
theorem CA:∀(l:List Sp)(v:Nat)(s:Sp),l[v]?=some s->(bM l)[v*2]?=some (.int .i64 s.1)/\(bM l)[v*2+1]?=some (.int .i64 s.2)
 |[],v,s,h=>by simp at h
 |t::r,0,s,h=>by simp at h;subst h;exact⟨rfl,rfl⟩
 |t::r,v+1,s,h=>by have:=CA r v s (by simpa using h);rw[show (v+1)*2=v*2+1+1 from by omega];simpa[bM] using this
theorem wJ:∀(l:List Sp)(v:Nat)(a b:Int),((bM l).set (v*2) (.int .i64 a)).set (v*2+1) (.int .i64 b)=bM (l.set v (a,b))
 |[],v,a,b=>by simp[bM]
 |t::r,0,a,b=>rfl
 |t::r,v+1,a,b=>by rw[show (v+1)*2=v*2+1+1 from by omega];simp only[bM,List.set_cons_succ];rw[wJ r v a b]
theorem wK:∀(l:List Sp)(v:Nat)(a:Int),(bM l).set (v*2) (.int .i64 a)=bM (l.modify v (λs=>(a,s.2)))
 |[],v,a=>by simp[bM]
 |t::r,0,a=>rfl
 |t::r,v+1,a=>by rw[show (v+1)*2=v*2+1+1 from by omega];simp only[bM,List.set_cons_succ,List.modify_succ_cons];rw[wK r v a]
theorem wI:∀(l:List Sp)(v:Nat)(a:Int),(bM l).set (v*2+1) (.int .i64 a)=bM (l.modify v (λs=>(s.1,a)))
 |[],v,a=>by simp[bM]
 |t::r,0,a=>rfl
 |t::r,v+1,a=>by rw[show (v+1)*2=v*2+1+1 from by omega];simp only[bM,List.set_cons_succ,List.modify_succ_cons];rw[wI r v a]
theorem XH{h:Hp}{e:Nat}{sp:List Sp}(hg:h.get 9=some (e,.blk (bM sp) 2 true false false))(d:Nat):Tev.snap (d+2) h (.rf 9 e 0 sp.length sp.length)=some (.sl false (sp.map xP) false,[9]):=by obtain⟨cs',h1,h2,h3,h4⟩:=cG (OK sp);rw[sJ]at h1;cases h1;have h5:=h4 [];rw[List.append_nil,bU]at h5;have ht:treeL (sp.map xP)=true:=bQ (f:=xP) (λs=>by simp[xP,go_sem]) sp;have h6:mapS (Tev.snap (d+1) h) (sp.map xP)=some (sp.map xP,[]):=eK d h ht;rw[pF];simp[hg,h5,h6,AV.tree]
def oB(sp:List Sp)(v:Int)(x:Int):List Sp:=sp.modify v.toNat (λs=>(s.1,x))
def nE(sp:List Sp)(v:Int)(x:Int):List Sp:=sp.modify v.toNat (λs=>(x,s.2))
def AE(sp:List Sp)(v:Int):Int:=match sp[v.toNat]? with|some s=>s.1|none=>0
def eW(V i:Nat):List Sp:=List.replicate i (-1,-1)++List.replicate (V-i) (-2,-2)
def iQ(sp:List Sp)(i:Nat)(l:List Int):List Sp:=l.foldl (λs v=>oB s v i) sp
def y9(sp:List Sp)(i:Nat)(q:aK):List Sp:=
 iQ (oB (if decide (AE sp q.value = -2) then nE sp q.value i else sp) q.value i) i (fF q)
def lT:List Sp->Nat->List aK->List Sp
 |sp,_,[]=>sp
 |sp,i,q::r=>lT (y9 sp i q) (i+1) r
def rX(sp:List Sp)(n:Nat)(l:List Int):List Sp:=l.foldl (λs v=>oB s v n) sp
def yZ(k:aG):List Sp:=rX (lT (eW k.values.es.length k.inputs.toNat) 0 k.list.es) k.list.es.length k.results.es
theorem qV(sp:List Sp)(v x:Int):(oB sp v x).length=sp.length:=by simp[oB]
theorem pU(sp:List Sp)(v x:Int):(nE sp v x).length=sp.length:=by simp[nE]
theorem j6(i:Nat):∀(l:List Int)(sp:List Sp),(iQ sp i l).length=sp.length
 |[],sp=>rfl
 |v::r,sp=>by simp only[iQ,List.foldl_cons];exact(j6 i r _).trans (qV _ _ _)
theorem tN(sp:List Sp)(i:Nat)(d:List Int)(x:Int):iQ sp i (d++[x])=oB (iQ sp i d) x i:=by simp[iQ]
theorem LW(sp:List Sp)(i:Nat)(q:aK):(y9 sp i q).length=sp.length:=by simp only[y9,j6,qV];split<;>simp[pU]
theorem qT:∀(l:List aK)(sp:List Sp)(i:Nat),(lT sp i l).length=sp.length
 |[],sp,i=>rfl
 |q::r,sp,i=>by rw[lT,qT r,LW]
theorem zA:∀(d:List aK)(sp:List Sp)(i:Nat)(q:aK),lT sp i (d++[q])=y9 (lT sp i d) (i+d.length) q
 |[],sp,i,q=>rfl
 |x::r,sp,i,q=>by simp only[List.cons_append,lT,zA r,List.length_cons];congr 1;omega
theorem mK{V i:Nat}(h:i<=V):(eW V i).length=V:=by simp[eW];omega
theorem LX{V i:Nat}(h:i<V):(eW V i).set i (-1,-1)=eW V (i+1):=by
 obtain⟨m,rfl⟩:∃m,V=i+(m+1):=⟨V-i-1,by omega⟩
 simp only[eW];rw[List.set_append_right _ _ (by simp)];have e1:i+(m+1)-i=m+1:=by omega
 have e2:i+(m+1)-(i+1)=m:=by omega
 rw[e1,e2,List.replicate_succ (n:=m),List.replicate_succ' (n:=i)];simp
theorem nG{k:aG}{th:List Bool}{p:aA}{n:Nat}{nt:Int}(h:qW k th p n nt=true):∀a∈jQ p,0<=a/\a<k.values.es.length/\nR th a=true/\a≠nt:=by intro a ha;simp only[qW,dQ,aD,gJ]at h;have h2:=h.2;rw[List.any_eq_false]at h2;have h3:=h2 a ha;simp only[Bool.or_eq_true,gJ,bC,not_or,Bool.not_eq_false]at h3;have ha':=ha;simp only[jQ,mA,oE]at ha';obtain⟨h4,h5⟩:=wH _ p _ h.1.2 a ha';exact⟨h4,h5,h3.1,h3.2⟩
theorem zY{k:aG}{th:List Bool}{q:aK}{i:Nat}(h:mU k th q i=true):∀a∈fF q,0<=a/\a<k.values.es.length/\nR th a=true:=by
 intro a ha;simp only[mU,aD]at h;obtain⟨_,h⟩:=h;split at h;cases h;rename_i t ht;simp only[aD,gJ]at h;obtain⟨⟨⟨⟨_,_⟩,h3⟩,_⟩,h5⟩:=h;simp only[fF,kE]at ha;simp only[aBE]at h5;split at h5;rename_i h6;simp only[aD]at h5;have h7:decide (q.kind=3)=false:=by simp at h6 ⊢;omega
 rw[h7]at ha;rcases ha with ha|ha;obtain⟨x1,x2,x3,_⟩:=nG h5.2 a ha;exact⟨x1,x2,x3⟩;simp at ha;split at h5;rename_i h6;simp only[aD]at h5;have h7:decide (q.kind=3)=false:=by simp at h6 ⊢;omega
 rw[h7]at ha;rcases ha with ha|ha;obtain⟨x1,x2,x3,_⟩:=nG h5.2 a ha;exact⟨x1,x2,x3⟩;simp at ha;split at h5;rename_i h6;simp only[aD]at h5;rw[if_pos h6]at h3 ha;rcases ha with ha|ha;obtain⟨x1,x2,x3,_⟩:=nG h5.1 a ha;exact⟨x1,x2,x3⟩;rw[kE]at ha;rcases ha with ha|ha;obtain⟨x1,x2,x3,_⟩:=nG h5.2 a ha;exact⟨x1,x2,x3⟩;simp only[List.mem_singleton]at ha;subst ha;simp only[aBC,Bool.or_eq_false_iff,mE,Bool.not_eq_false']at h3;exact⟨by omega,by omega,h3.1.2⟩;cases h5
theorem CE{k:aG}:∀(l:List aK)(th:List Bool)(i:Nat),XL k th l i=none->∀d q r,l=d++q::r->mU k (xW th d) q (i+d.length)=true
 |[],th,i,_,d,q,r,he=>by cases d<;>simp at he
 |x::l,th,i,h,d,q,r,he=>by
  simp only[XL]at h;split at h;rename_i hx;cases d with
  |nil=>simp at he;obtain⟨rfl,rfl⟩:=he;exact hx
  |cons y d=>simp at he;obtain⟨rfl,rfl⟩:=he;have:=CE _ _ _ h d q r rfl;rw[List.length_cons,show i+(d.length+1)=i+1+d.length from by omega];exact this
  cases h
structure aHO(k:aG):Prop where
 out:vF k=true
 ker:∀d q r,k.list.es=d++q::r->mU k (xW (YF k) d) q d.length=true
 res:∀v∈k.results.es,0<=v/\v<k.values.es.length/\nR (xW (YF k) k.list.es) v=true
 one:0<k.results.es.length
theorem RC{k:aG}(h:(wT k).2=0):aHO k:=by simp only[wT]at h;split at h;rename_i ho;split at h;simp at h;rename_i hr;split at h;simp at h;rename_i hb;simp only[zE,Bool.or_eq_true,not_or,Bool.not_eq_true,bC,mE,List.any_eq_false]at hb;obtain⟨⟨h1,h2⟩,h3⟩:=hb;refine⟨ho,λd q r he=>by simpa using CE _ _ _ hr d q r he,λv hv=>?_,by omega⟩;have h4:=h3 v hv;simp only[E4,Bool.or_eq_false_iff,mE,Bool.not_eq_false',not_or,Bool.not_eq_true,Bool.or_eq_true,bC]at h4;obtain⟨⟨x1,x2⟩,x3⟩:=h4;exact⟨by omega,by omega,by simpa using x3⟩;simp at h
theorem RB{k:aG}:(wT k).2=0\/(wT k).2=22:=by simp only[wT];split;split;exact .inr rfl;split;exact .inr rfl;exact .inl rfl;exact .inr rfl
end
section
def LV(k:aG)(r:AV):Prop:=
 if (wT k).2=0 then r = .tup [.sl false ((yZ k).map xP) false,.int .i64 0] else r = .tup [.sl true [] true,.int .i64 22]
theorem XK{l:List AV}{n:Nat}(x y:AV)(h:n*2+1<l.length):List.take (0+n*2) l++[x,y]++List.drop (0+n*2+2) l=(l.set (n*2) x).set (n*2+1) y:=by
 obtain⟨a,u,v,m,rfl,ha⟩:∃a u v m,l=a++u::v::m/\a.length=n*2:=by refine⟨l.take (n*2),l[n*2],l[n*2+1],l.drop (n*2+1+1),?_,by simp;omega⟩;rw[<-nQ h,<-nQ (by omega),List.take_append_drop]
 rw[Nat.zero_add,<-ha];simp[List.set_append]
theorem OM{l:List AV}{n:Nat}(x:AV)(h:n<l.length):List.take n l++[x]++List.drop (n+1) l=l.set n x:=by rw[List.set_eq_take_append_cons_drop,if_pos h];simp
theorem IB(sp:List Sp)(v x:Int)(h:v.toNat<sp.length):List.take (0+v.toNat*2+1) (bM sp)++[.int .i64 x]++List.drop (0+v.toNat*2+1+1) (bM sp)=bM (oB sp v x):=by rw[Nat.zero_add,OM _ (by rw[iG];omega),wI];rfl
theorem XE(sp:List Sp)(v x:Int)(h:v.toNat<sp.length):List.take (0+v.toNat*2+0) (bM sp)++[.int .i64 x]++List.drop (0+v.toNat*2+0+1) (bM sp)=bM (nE sp v x):=by rw[Nat.zero_add,Nat.add_zero,OM _ (by rw[iG];omega),wK];rfl
theorem I9(sp:List Sp)(v:Int)(h:v.toNat<sp.length):(0+v.toNat*2+1+1<=(bM sp).length)=True:=eq_true (by rw[iG];omega)
theorem YA(sp:List Sp)(v:Int)(h:v.toNat<sp.length):(0+v.toNat*2+0+1<=(bM sp).length)=True:=eq_true (by rw[iG];omega)
theorem YB(sp:List Sp)(v:Int)(h:v.toNat<sp.length):(bM sp)[0+v.toNat*2+0]?=some (.int .i64 (AE sp v)):=by
 obtain⟨s,hs⟩:∃s,sp[v.toNat]?=some s:=⟨_,cK h⟩
 rw[Nat.zero_add,Nat.add_zero,(CA sp _ s hs).1];simp[AE,hs]
section
variable{pg:Pg}
theorem c9 (hf:pg.fs 9=some cf9) (h28:∀k:aG,(k.vars.nl=true->k.vars.es=[])->(∀q∈k.list.es,q.body.ok/\q.index.ok/\k.vars.es.length+9+q.body.sz<=big/\k.vars.es.length+9+q.index.sz<=big) ->
   Ret pg 28 [k.av] (.tup [.int .i64 (wT k).1,.int .i64 (wT k).2]))
  (h29:∀(nl cl:Bool)(a b:Int)(n:Nat),n<=big->cA pg 29 [.sl nl [.agg [.int .i64 a,.int .i64 b]] cl,.int .i64 n] (pP 2 true (List.replicate n (.agg [.int .i64 a,.int .i64 b]))))
  (h30:∀q:aK,q.body.ok->q.index.ok->q.body.sz+q.index.sz+1<=big->cA pg 30 [q.av] (pP 1 false ((fF q).map aH)))
  (k:aG) (hnl:k.vars.nl=true->k.vars.es=[]) (hq:∀q∈k.list.es,q.body.ok/\q.index.ok/\k.vars.es.length+9+q.body.sz<=big/\k.vars.es.length+9+q.index.sz<=big) (hq2:∀q∈k.list.es,q.body.sz+q.index.sz+1<=big) :
  cA pg 9 [k.av] (LV k):=by
 have a1:=h28 k hnl hq;have hVb:=k.values.ok;have a2:=h29 false true (-2) (-2) k.values.es.length hVb;clear h28 h29;refine cA.ofX hf ?_;unfold cf9;simp only[aG.av,aG.cells,go_sem,seval];refine cO a1 (by simp only[aG.av,aG.cells,go_sem,seval]) rfl ?_;rcases RB (k:=k) with hc|hc;have ok:=RC hc;have hso:=ok.out;simp only[vF,aD,bC]at hso;obtain⟨_,⟨⟨⟨⟨⟨⟨_,_⟩,hi0⟩,_⟩,hiV⟩,_⟩,_⟩,_⟩:=hso;have hV:0<k.values.es.length:=by obtain⟨v,hv⟩:=List.exists_mem_of_length_pos ok.one;have:=ok.res v hv;omega
 have hsp0:List.replicate k.values.es.length (AV.agg [.int .i64 (-2),.int .i64 (-2)])=(eW k.values.es.length 0).map xP:=by simp[eW,xP]
 have hl0:(eW k.values.es.length 0).length=k.values.es.length:=mK (Nat.zero_le _);rw[hsp0]at a2;rw[hc];refine Wk ?_;refine P5 a2 (by simp only[go_sem,seval]) (OK _) (λhe=>?_) (λcs hcs _=>?_);have:=congrArg List.length he;rw[bU,hl0,List.length_nil]at this;omega;rw[sJ]at hcs;cases hcs;rw[bU,hl0];generalize hE:Hp.next _ (0+9)=E;clear hE a1 a2;obtain⟨ins,hins⟩:∃n:Nat,k.inputs=n:=⟨k.inputs.toNat,by omega⟩
 have hinV:ins<=k.values.es.length:=by omega
 have hins':k.inputs.toNat=ins:=by omega
 refine Wk ?_
 refine aN (List.range ins) (λd r env hp=>env=VD (.pt 1 0 0) (.rf 9 E 0 k.values.es.length k.values.es.length) (.int .i64 k.inputs) (.int .i64 d.length) /\
  hp.get 1=some (0,.blk k.cells 6 true true false)/\hp.get 9=some (E,.blk (bM (eW k.values.es.length d.length)) 2 true false false)) ?_ ?_ ?_
 refine⟨rfl,?_,?_⟩;refine Wk ?_;rfl;simp only[go_sem,seval];rintro env hp ⟨rfl,g1,g9⟩;have hr:(List.range ins).length=ins:=List.length_range;rw[hr]at g9 ⊢;have e1:decide ((ins:Int)<k.inputs)=false:=by simp;omega
 have g1':=g1;simp only[aG.cells,Sl.av]at g1;simp only[VA,VD,e1,g1,go_sem,seval]
 refine aN k.list.es (λd r env hp=>env=VC (.pt 1 0 0) (.rf 9 E 0 k.values.es.length k.values.es.length) (.sl k.list.nl (k.list.es.map aK.av) k.list.cl) (.int .i64 k.list.es.length) (.int .i64 d.length) /\
  hp.get 1=some (0,.blk k.cells 6 true true false)/\hp.get 9=some (E,.blk (bM (lT (eW k.values.es.length ins) 0 d)) 2 true false false)) ?_ ?_ ?_
 exact⟨rfl,g1',g9⟩;clear g9 g1 g1' hp;rintro env hp ⟨rfl,g1,g9⟩;have g1':=g1;simp only[aG.cells,Sl.av]at g1;simp only[U9,VC,g1,go_sem,seval]
 refine aN k.results.es (λd r env hp=>env=VB (.pt 1 0 0) (.rf 9 E 0 k.values.es.length k.values.es.length) (.sl k.results.nl (k.results.es.map aH) k.results.cl) (.int .i64 k.results.es.length) (.int .i64 d.length) /\
  hp.get 1=some (0,.blk k.cells 6 true true false)/\hp.get 9=some (E,.blk (bM (rX (lT (eW k.values.es.length ins) 0 k.list.es) k.list.es.length d)) 2 true false false)) ?_ ?_ ?_
 exact⟨rfl,g1',g9⟩;clear g9 g1 g1' hp;rintro env hp ⟨rfl,g1,g9⟩;have hlen:(yZ k).length=k.values.es.length:=by simp only[yZ];rw[show rX=λsp n l=>iQ sp n l from rfl];rw[j6,qT,hins',mK hinV]
 have hspk:rX (lT (eW k.values.es.length ins) 0 k.list.es) k.list.es.length k.results.es=yZ k:=by rw[yZ,hins']
 rw[hspk]at g9;have hsn:=XH g9 61;rw[hlen]at hsn;simp only[U8,VB,go_sem,seval];simp only[Tev.conv,depth,pF,iK,eG,↓hsn,go_sem];rw[LV,if_pos hc];clear g9 g1 g1' hp;rintro d v r env hp hes ⟨rfl,g1,g9⟩;obtain⟨v1,v2,_⟩:=ok.res v (by rw[hes];simp);have hrb:=k.results.ok;rw[hes]at hrb;have hget:k.results.es[d.length]?=some v:=by rw[hes];simp
 have hlt:d.length<k.results.es.length:=by rw[hes];simp
 have e1:decide ((d.length:Int)<(k.results.es.length:Int))=true:=by simp;omega
 have e2:((d.length:Int)<(k.results.es.length:Int))=True:=eq_true (by omega);have v1':(0<=v)=True:=eq_true v1;have v2':(v<(k.values.es.length:Int))=True:=eq_true v2;have g1':=g1;simp only[aG.cells,Sl.av]at g1;have hln:(rX (lT (eW k.values.es.length ins) 0 k.list.es) k.list.es.length d).length=k.values.es.length:=by rw[show rX=λsp n l=>iQ sp n l from rfl];rw[j6,qT,mK hinV]
 have hvl:v.toNat<(rX (lT (eW k.values.es.length ins) 0 k.list.es) k.list.es.length d).length:=by rw[hln];omega
 have hsno:oB (rX (lT (eW k.values.es.length ins) 0 k.list.es) k.list.es.length d) v k.list.es.length=rX (lT (eW k.values.es.length ins) 0 k.list.es) k.list.es.length (d++[v]):=by simp[rX]
 simp only[U8,VB,e1,e2,g1,g9,hget,v1',v2',I9 _ v hvl,IB _ v _ hvl,cL hrb,hsno,go_sem,seval];exact⟨rfl,rfl⟩;clear g9 g1 g1' hp;rintro d q r env hp hes ⟨rfl,g1,g9⟩;obtain⟨v0,v2,_⟩:=JA (ok.ker d q r hes);have hlb:=k.list.ok;rw[hes]at hlb;have hget:k.list.es[d.length]?=some q:=by rw[hes];simp
 have hlt:d.length<k.list.es.length:=by rw[hes];simp
 have e1:decide ((d.length:Int)<(k.list.es.length:Int))=true:=by simp;omega
 have e2:((d.length:Int)<(k.list.es.length:Int))=True:=eq_true (by omega);have v1':(0<=q.value)=True:=eq_true (by omega);have v2':(q.value<(k.values.es.length:Int))=True:=eq_true v2;obtain⟨p1,p2,_,_⟩:=hq q (by rw[hes];simp);have a3:=h30 q p1 p2 (hq2 q (by rw[hes];simp));rw[aK.avc]at a3;have hrd:=zY (ok.ker d q r hes);have hrlen:(fF q).length<=big:=by have z1:=hq2 q (by rw[hes];simp);have z2:=zH q.body;have z3:=zH q.index;simp only[fF,dA];split<;>simp<;>omega
 have hrun:=zA d (eW k.values.es.length ins) 0 q;rw[Nat.zero_add]at hrun;rw[hrun];have hln:(lT (eW k.values.es.length ins) 0 d).length=k.values.es.length:=by rw[qT,mK hinV]
 generalize lT (eW k.values.es.length ins) 0 d=sp at g9 hln ⊢;have hvl:q.value.toNat<sp.length:=by omega
 have hvl2:q.value.toNat<(nE sp q.value d.length).length:=by rw[pU];exact hvl
 have hst:y9 sp d.length q=iQ (oB (if decide (AE sp q.value = -2) then nE sp q.value d.length else sp) q.value d.length) d.length (fF q):=rfl;rw[hst];clear hst hrun h30 hq hq2;simp only[U9,VC,e1,e2,g9,hget,v1',v2',YB sp q.value hvl,go_sem,seval];cases hfr:decide (AE sp q.value = -2)
 case true=>
  simp only[g9,v1',v2',YA sp _ hvl,XE sp _ _ hvl,I9 _ _ hvl2,IB _ _ _ hvl2,go_sem,seval];refine qQ a3 (by simp only[go_sem,seval]) ?_;intro nl3 cl3 _;refine Wk ?_
  refine aN (fF q) (λd2 r2 env hp=>env=DK (.pt 1 0 0) (.rf 9 E 0 k.values.es.length k.values.es.length) (.int .i64 d.length) (.sl k.list.nl (k.list.es.map aK.av) k.list.cl) (.int .i64 k.list.es.length) (.int .i64 d.length) (.sl nl3 ((fF q).map aH) cl3) (.int .i64 (fF q).length) (.int .i64 d2.length) /\
   hp.get 1=some (0,.blk k.cells 6 true true false)/\hp.get 9=some (E,.blk (bM (iQ (oB (nE sp q.value d.length) q.value d.length) d.length d2)) 2 true false false)) ?_ ?_ ?_
  refine⟨rfl,?_,?_⟩;refine Wk ?_;exact g1;refine Wk ?_;rfl;clear g9 g1 hp;rintro env hp ⟨rfl,g1,g9⟩;simp only[J1,DK,cL hlb,go_sem,seval]
  first|exact⟨rfl,g1,g9⟩
  clear g9 g1 hp;rintro d2 v r2 env hp hes2 ⟨rfl,g1,g9⟩;obtain⟨w1,w2,_⟩:=hrd v (by rw[hes2];simp);have hget2:(fF q)[d2.length]?=some v:=by rw[hes2];simp
  have hlt2:d2.length<(fF q).length:=by rw[hes2];simp
  have f1:decide ((d2.length:Int)<((fF q).length:Int))=true:=by simp;omega
  have f2:((d2.length:Int)<((fF q).length:Int))=True:=eq_true (by omega);have w1':(0<=v)=True:=eq_true w1;have w2':(v<(k.values.es.length:Int))=True:=eq_true w2;have hvl3:v.toNat<(iQ (oB (nE sp q.value d.length) q.value d.length) d.length d2).length:=by rw[j6,qV];rw[pU];omega
  have hrb2:(d2++v::r2).length<=big:=by rw[<-hes2];exact hrlen
  simp only[J1,DK,f1,f2,g9,hget2,w1',w2',I9 _ v hvl3,IB _ v _ hvl3,cL hrb2,go_sem,seval];rw[tN]
  first|exact⟨rfl,g1,rfl⟩|exact g1
 case false=>
  simp only[g9,v1',v2',I9 _ _ hvl,IB _ _ _ hvl,go_sem,seval];refine qQ a3 (by simp only[go_sem,seval]) ?_;intro nl3 cl3 _;refine Wk ?_
  refine aN (fF q) (λd2 r2 env hp=>env=DK (.pt 1 0 0) (.rf 9 E 0 k.values.es.length k.values.es.length) (.int .i64 d.length) (.sl k.list.nl (k.list.es.map aK.av) k.list.cl) (.int .i64 k.list.es.length) (.int .i64 d.length) (.sl nl3 ((fF q).map aH) cl3) (.int .i64 (fF q).length) (.int .i64 d2.length) /\
   hp.get 1=some (0,.blk k.cells 6 true true false)/\hp.get 9=some (E,.blk (bM (iQ (oB sp q.value d.length) d.length d2)) 2 true false false)) ?_ ?_ ?_
  refine⟨rfl,?_,?_⟩;refine Wk ?_;exact g1;refine Wk ?_;rfl;clear g9 g1 hp;rintro env hp ⟨rfl,g1,g9⟩;simp only[J1,DK,cL hlb,go_sem,seval]
  first|exact⟨rfl,g1,g9⟩
  clear g9 g1 hp;rintro d2 v r2 env hp hes2 ⟨rfl,g1,g9⟩;obtain⟨w1,w2,_⟩:=hrd v (by rw[hes2];simp);have hget2:(fF q)[d2.length]?=some v:=by rw[hes2];simp
  have hlt2:d2.length<(fF q).length:=by rw[hes2];simp
  have f1:decide ((d2.length:Int)<((fF q).length:Int))=true:=by simp;omega
  have f2:((d2.length:Int)<((fF q).length:Int))=True:=eq_true (by omega);have w1':(0<=v)=True:=eq_true w1;have w2':(v<(k.values.es.length:Int))=True:=eq_true w2;have hvl3:v.toNat<(iQ (oB sp q.value d.length) d.length d2).length:=by rw[j6,qV];omega
  have hrb2:(d2++v::r2).length<=big:=by rw[<-hes2];exact hrlen
  simp only[J1,DK,f1,f2,g9,hget2,w1',w2',I9 _ v hvl3,IB _ v _ hvl3,cL hrb2,go_sem,seval];rw[tN]
  first|exact⟨rfl,g1,rfl⟩|exact g1
 rintro d x r env hp hes ⟨rfl,g1,g9⟩;obtain⟨hx,hlt⟩:=QT hes;have hb2:(d++x::r).length<=big:=by rw[<-hes];simp;omega
 have hlen:(eW k.values.es.length d.length).length=k.values.es.length:=mK (by omega);have e1:decide ((d.length:Int)<k.inputs)=true:=by simp;omega
 have e2:((d.length:Int)<(k.values.es.length:Int))=True:=eq_true (by omega);have e3:(0+d.length*2+2<=(bM (eW k.values.es.length d.length)).length)=True:=eq_true (by rw[iG,hlen];omega);have e4:=XK (l:=bM (eW k.values.es.length d.length)) (n:=d.length) (.int .i64 (-1)) (.int .i64 (-1)) (by rw[iG,hlen];omega);rw[wJ,LX (by omega)]at e4;simp only[VA,VD,e1,e2,g9,e3,e4,cL hb2,go_sem,seval];rw[dA];exact⟨rfl,g1,rfl⟩;rw[hc];refine Wk ?_;rw[LV,hc];rfl
end
end
section
section
variable{pg:Pg}
end
end
end Go.Tev
