import Derived.Test.YtilkdbbkkcnocaaGreatDoorSBM
import Derived.Test.YtilkdbbkkcnocaaGreatDoorSBN
import Derived.Test.YtilkdbbkkcnocaaGreatDoorSBL
set_option linter.all false
namespace Go.Tev
section
def cL(n:aZ):List aA:=if n.dyn then [n.index,n.body] else [n.body]
structure Nc where
 r:Int
 p:Int
 o:Int
 e:Int
def tD:List aA->List Val->Nc->Nc
 |[],_,s=>s
 |q::r,env,s=>if (iV q env).e=0 then tD r env ⟨wr .i64 (s.r+(iV q env).r),wr .i64 (s.p+0),wr .i64 (s.o+(iV q env).o),0⟩ else ⟨0,0,0,(iV q env).e⟩
def xD(qs:List aA):List (List Val)->Nc->Nc
 |[],s=>s
 |x::r,s=>if (tD qs x s).e=0 then xD qs r ⟨(tD qs x s).r,wr .i64 ((tD qs x s).p+1),(tD qs x s).o,0⟩ else ⟨0,0,0,(tD qs x s).e⟩
def kO(n:aZ)(env:List Val):Nc:=
 if lR env/\eM n (env.map (·.v)) 1000=true then (if (gG n.loops.es env ⟨0,0,0,[]⟩).e=0 then xD (cL n) (gG n.loops.es env ⟨0,0,0,[]⟩).ps ⟨0,0,0,0⟩ else ⟨0,0,0,(gG n.loops.es env ⟨0,0,0,[]⟩).e⟩) else ⟨0,0,0,1⟩
def Nc.av(s:Nc):AV:=.tup [xH s.r s.p s.o,.int .i64 s.e]
structure pG(L:List Loop)(env x:List Val):Prop where
 len:x.length=env.length+L.length
 pre:x.take env.length=env
 at_:∀j l,L[j]?=some l->∃i,x[env.length+j]?=some ⟨l.v,i⟩
theorem pG.cons{l:Loop}{r:List Loop}{env x:List Val}{i:Int}(h:pG r (env++[⟨l.v,i⟩]) x):pG (l::r) env x:=by
 obtain⟨h1,h2,h3⟩:=h;simp only[cO,List.length_cons,List.length_nil]at h1 h2 h3;refine⟨by simp only[List.length_cons];omega,?_,?_⟩;have:=congrArg (List.take env.length) h2;rw[List.take_take]at this;simpa using this;intro j l' hl;cases j with
 |zero=>simp only[List.getElem?_cons_zero,aU]at hl;subst hl;refine⟨i,?_⟩;have:=congrArg (λy:List Val=>y[env.length]?) h2;simp only[List.getElem?_take]at this;rw[if_pos (by omega)]at this;rw[Nat.add_zero,this];simp
 |succ j=>simp only[List.getElem?_cons_succ]at hl;obtain⟨i',hi⟩:=h3 j l' hl;exact⟨i',by rw[<-hi];congr 1;omega⟩
theorem zH{f:Int->Ws->Ws}{hi st:Int}{P:List Val->Prop}(hf:∀i s x,x∈(f i s).ps->x∈s.ps\/P x):∀(n:Nat)(i:Int)(s:Ws)(x:List Val),x∈(jY f hi st n i s).ps->x∈s.ps\/P x
 |0,i,s,x,h => .inl h
 |n+1,i,s,x,h=>by unfold jY at h;split at h;split at h;exact .inl h;split at h;rcases zH hf n _ _ x h with h|h;have:=hf i ⟨s.c,wr .i64 (s.t+1),s.e,s.ps⟩ x h;exact this;exact .inr h;have:=hf i ⟨s.c,wr .i64 (s.t+1),s.e,s.ps⟩ x h;exact this;exact .inl h
theorem IT:∀(L:List Loop)(env:List Val)(s:Ws)(x:List Val),x∈(gG L env s).ps->x∈s.ps\/pG L env x
 |[],env,s,x,h=>by unfold gG at h;split at h;exact .inl h;rcases jW.1 h with h|h;exact .inl h;simp only[List.mem_singleton]at h;subst h;exact .inr ⟨by simp,by simp,λj l hl=>by simp at hl⟩
 |l::r,env,s,x,h=>by rw[gG]at h;split at h;exact zH (P:=pG (l::r) env) (λi s x hx=>(IT r _ s x hx).imp id pG.cons) _ _ s x h;exact .inl h
theorem TD(es:List AV):slE es = .sl (decide (es=[])) es (decide (es=[])):=by unfold slE;split;rename_i h;subst h;simp;rename_i h;simp[h]
theorem Y3{h:Hp}{d:Nat}{a b b':AV}{keys:List Nat}(ha:a.tree=true)(hb:Tev.snap (d+1) h b=some (b',keys)):mapS (Tev.snap (d+1) h) [a,b]=some ([a,b'],keys):=by rw[bG,fR,if_pos ha,bG,hb,eN];simp
section
variable{pg:Pg}
set_option maxRecDepth 100000 in
set_option maxHeartbeats 2000000 in
theorem c985(hf:pg.fs 985=some J1)(h357:pg.fs 357=some DX)(h986:pg.fs 986=some DR)(n:aZ)(enl ecl:Bool)(env:List Val)(henl:enl=true->env=[])(hsz2:env.length+n.loops.es.length<=big)
  (h563:bV pg 563 [n.av,.sl enl (env.map Val.av) ecl] (λr=>r=if lR env/\eM n (env.map (·.v)) 1000=true then IW env.length (gG n.loops.es env ⟨0,0,0,[]⟩) else .tup [.sl true [] true,.int .i64 1]))
  (h972:∀q∈cL n,∀x:List Val,x.length=env.length+n.loops.es.length->∀nl cl,Ret pg 972 [q.av,.sl nl (x.map Val.av) cl] (iV q x).av) :
  Ret pg 985 [n.av,.sl enl (env.map Val.av) ecl] (kO n env).av:=by
 obtain⟨r,a563,hr⟩:=h563;refine Ret.ofX hf ?_;unfold J1;rw[aZ.avc]at a563;have w0:wr .i64 0=0:=rfl;obtain⟨S,hS⟩:∃S,S=kO n env:=⟨_,rfl⟩
 rw[<-hS];unfold kO at hS;split at hr
 rotate_left 1
 rename_i hc;rw[if_neg hc]at hS;subst hr hS;refine Wk ?_;refine aC a563 ?_;simp only[Nc.av,xH,go_sem,seval];rename_i hc;rw[if_pos hc]at hS;obtain⟨W,hW⟩:∃W,W=gG n.loops.es env ⟨0,0,0,[]⟩:=⟨_,rfl⟩
 have hmem:∀x∈W.ps,pG n.loops.es env x:=λx hx=>by rw[hW]at hx;rcases IT _ _ _ _ hx with h|h;simp at h;exact h
 rw[<-hW]at hr hS;unfold IW at hr;split at hr
 rotate_left 1
 rename_i he;rw[if_neg he]at hS;subst hr hS;have be:decide (W.e=0)=false:=decide_eq_false he;refine Wk ?_;refine aC a563 ?_;simp only[be,Nc.av,xH,go_sem,seval];rename_i he;rw[if_pos he]at hS;rw[TD]at hr;subst hr;generalize decide (W.ps.map (ptA env.length)=[])=pb at a563;have hpsT:treeL (W.ps.map (ptA env.length))=true:=bQ (λx=>(El.ptP env.length x).tree) _;have hpl:W.ps.length<=big:=by have:=L6 n.loops.es env ⟨0,0,0,[]⟩ (Int.le_refl _) (by decide) (by rw[<-hW];exact he);rw[<-hW]at this;simp only[big];omega
 have hlb:=n.loops.ok;refine Wk ?_;refine gO a563 (by simp only[go_sem,seval]) (by simp[AV.notOs]) (Wk ?_)
 refine aQ W.ps (λd r e hp=>∃s:Nc,e=F4 (.sl enl (env.map Val.av) ecl) (.pt 1 0 0) (.pt 5 0 0) (.pt 13 0 0) (.sl pb (W.ps.map (ptA env.length)) pb) (.int .i64 W.ps.length) (.int .i64 d.length)/\hp.get 1=some (0,.blk (aZ.av n).cells 23 true true false) /\
  hp.get 5=some (0,.blk [.int .i64 0,.int .i64 0,.int .i64 0,.int .i64 0] 4 true true false)/\hp.get 13=some (0,.blk [.int .i64 s.r,.int .i64 s.p,.int .i64 s.o,.int .i64 0] 4 true true false)/\s.e=0/\S=xD (cL n) r s) ?_ ?_ ?_
 exact⟨⟨0,0,0,0⟩,rfl,by rw[aZ.cells_av];rfl,rfl,rfl,rfl,hS⟩;rintro e hp ⟨s,rfl,g1,g5,g13,hs,hT⟩;have hSs:S=s:=hT;simp only[F0,F4,bK,g13,g5,go_sem,seval];rw[hSs];simp only[Nc.av,xH,hs,go_sem,seval]
 ·rintro d x r e hp hes ⟨s,rfl,g1,g5,g13,hs,hT⟩;obtain⟨hget,e1,e2,ew⟩:=eD hes hpl;have hfit:=(El.ptP env.length x).fits;obtain⟨x1,x2,x3⟩:=hmem x (by rw[hes];simp);have g1':=g1;rw[aZ.cells_av]at g1';simp only[F0,F4,e1,e2,hget,hfit,go_sem,seval];refine HL (c357 h357 enl ecl env (by omega) henl) (by simp only[go_sem,seval]) (El.vals env) ?_;intro v11 rd pa o11 k11 hpa;have q1:=(k11 1 (by decide)).trans g1;have q5:=(k11 5 (by decide)).trans g5;have q13:=(k11 13 (by decide)).trans g13;have q1':=(k11 1 (by decide)).trans g1';generalize Eff.app hp (.pat rd pa)=H2 at o11 q1 q5 q13 q1' ⊢;simp only[q1',go_sem,seval]
  refine aQ n.loops.es (λd2 r2 e hp=>∃v11 k1,e=F6 (.sl enl (env.map Val.av) ecl) (.pt 1 0 0) (.pt 5 0 0) (.pt 13 0 0) (ptA env.length x) v11 (.sl pb (W.ps.map (ptA env.length)) pb) (.int .i64 W.ps.length) (.int .i64 d.length) (.sl n.loops.nl (n.loops.es.map Loop.av) n.loops.cl) (.int .i64 n.loops.es.length) (.int .i64 d2.length) /\
   (k1=17\/k1=25)/\Own hp k1 2 true v11 ((x.take (env.length+d2.length)).map Val.av)/\hp.get 1=some (0,.blk (aZ.av n).cells 23 true true false) /\
   hp.get 5=some (0,.blk [.int .i64 0,.int .i64 0,.int .i64 0,.int .i64 0] 4 true true false)/\hp.get 13=some (0,.blk [.int .i64 s.r,.int .i64 s.p,.int .i64 s.o,.int .i64 0] 4 true true false)) ?_ ?_ ?_
  refine⟨v11,17,rfl,.inl rfl,?_,q1,q5,q13⟩;rw[List.length_nil,Nat.add_zero,x2];exact o11
  ·rintro e hp ⟨v11,k1,rfl,hk1,o11,q1,q5,q13⟩;rw[<-x1,List.take_length]at o11;have q1':=q1;rw[aZ.cells_av]at q1';simp only[F3,F6,bK,q1',go_sem,seval];obtain⟨qs,hqs⟩:∃qs,qs=cL n:=⟨_,rfl⟩
   rw[<-hqs]at hT;have hql:qs.length<=big:=by rw[hqs];unfold cL;split<;>simp[big]
   have hqm:∀q∈qs,∀nl cl,Ret pg 972 [q.av,.sl nl (x.map Val.av) cl] (iV q x).av:=λq hq=>h972 q (by rw[<-hqs];exact hq) x x1;have hk25:∀(H:Hp),Own hp k1 2 true v11 (x.map Val.av)->H.get k1=hp.get k1->Own H k1 2 true v11 (x.map Val.av):=λH o h=>o.mono h;cases bd:n.dyn
   case' false=>
    have hqv:qs=[n.body]:=by rw[hqs];unfold cL;rw[bd];rfl
    simp only[bd,q1',go_sem,seval]
   case' true=>
    have hqv:qs=[n.index,n.body]:=by rw[hqs];unfold cL;rw[bd];rfl
    simp only[bd,q1',go_sem,seval]
   all_goals
    refine aQ qs (λd3 r3 e hp=>∃s3:Nc,e=F5 (.sl enl (env.map Val.av) ecl) (.pt 1 0 0) (.pt 5 0 0) (.pt 13 0 0) v11 (.sl pb (W.ps.map (ptA env.length)) pb) (.int .i64 W.ps.length) (.int .i64 d.length) (.sl false (qs.map aA.av) true) (.int .i64 qs.length) (.int .i64 d3.length) /\
     Own hp k1 2 true v11 (x.map Val.av)/\hp.get 1=some (0,.blk (aZ.av n).cells 23 true true false)/\hp.get 5=some (0,.blk [.int .i64 0,.int .i64 0,.int .i64 0,.int .i64 0] 4 true true false) /\
     hp.get 13=some (0,.blk [.int .i64 s3.r,.int .i64 s3.p,.int .i64 s3.o,.int .i64 0] 4 true true false)/\s3.e=0/\tD qs x s=tD r3 x s3) ?_ ?_ ?_
    exact⟨s,by rw[hqv];simp only[List.map_cons,List.map_nil,aA.avc];rfl,o11,q1,q5,q13,hs,rfl⟩;rintro e hp ⟨s3,rfl,o11,q1,q5,q13,hs3,hA⟩;have hA2:tD qs x s=s3:=hA;rw[xD,hA2,if_pos hs3]at hT;simp only[F2,F5,bK,q13,go_sem,seval];simp only[ew,go_sem,seval];exact⟨⟨s3.r,wr .i64 (s3.p+1),s3.o,0⟩,rfl,by rw[aZ.cells_av]at q1;exact q1,q5,rfl,rfl,by rw[<-hqs];exact hT⟩;rintro d3 q r3 e hp hes3 ⟨s3,rfl,o11,q1,q5,q13,hs3,hA⟩;obtain⟨hget3,e13,e23,ew3⟩:=eD hes3 hql;have a972:=hqm q (by rw[hes3];simp);have f:∀o1 o2 q,q≠29->((hp.put 29 (hp.next 29) o1).put 29 (hp.next 29) o2).get q=hp.get q:=λo1 o2 q hq=>by rw[aB,if_neg (Ne.symm hq),aB,if_neg (Ne.symm hq)]
    simp only[F2,F5,e13,e23,hget3,go_sem,seval];have c29:∀o1 o2,Own ((hp.put 29 (hp.next 29) o1).put 29 (hp.next 29) o2) k1 2 true v11 (x.map Val.av):=λo1 o2=>o11.mono (f _ _ _ (by omega));obtain⟨nl8,cl8,keys,hsn,_⟩:=(c29 (.blk [.str [],.int .i64 0,.int .i64 0,.str [],.sl true [] true,.bool false,.int .i64 0,.sl true [] true,.sl true [] true] 9 true true false) (.blk q.av.cells 9 true true false)).snapK (El.vals x) 62;have q29:=a972 nl8 cl8;have f1:=f (.blk [.str [],.int .i64 0,.int .i64 0,.str [],.sl true [] true,.bool false,.int .i64 0,.sl true [] true,.sl true [] true] 9 true true false) (.blk q.av.cells 9 true true false);obtain⟨H4,hH4⟩:∃H4,H4=(hp.put 29 (hp.next 29) (.blk [.str [],.int .i64 0,.int .i64 0,.str [],.sl true [] true,.bool false,.int .i64 0,.sl true [] true,.sl true [] true] 9 true true false)).put 29 (hp.next 29) (.blk q.av.cells 9 true true false):=⟨_,rfl⟩
    rw[<-hH4]at hsn f1;have o4:Own H4 k1 2 true v11 (x.map Val.av):=o11.mono (f1 _ (by omega));have r1:=(f1 1 (by decide)).trans q1;have r5:=(f1 5 (by decide)).trans q5;have r13:=(f1 13 (by decide)).trans q13;rw[aA.cells_av]at hH4;rw[<-hH4];rw[aA.avc]at q29;obtain⟨⟨pr,po,pe⟩,hpv⟩:∃pv,pv=iV q x:=⟨_,rfl⟩
    rw[<-hpv]at q29;refine cX q29 (Y3 (by simp only[go_sem,seval]) hsn) (v:=(Pv.mk pr po pe).av) (pa:=[]) rfl ?_;rw[tD,<-hpv]at hA;dsimp only at hA;have hE:∀ks,Eff.app H4 (.pat ks ((if (Pv.mk pr po pe).av.flat=true then [] else aI H4 keys)++[]))=H4:=λks=>rfl;rw[hE];have w37:∀o1 o2 q,q≠37->((H4.put 37 (H4.next 37) o1).put 37 (H4.next 37) o2).get q=H4.get q:=λo1 o2 q hq=>by rw[aB,if_neg (Ne.symm hq),aB,if_neg (Ne.symm hq)]
    cases be:decide (pe=0);have hne:=aN be;rw[if_neg hne]at hA;rw[xD,hA,if_neg hne]at hT;rw[hT];simp only[Pv.av,mO,be,r5,Nc.av,xH,go_sem,seval];have he:=aG be;subst he;rw[if_pos rfl]at hA;have a986:=c986 h986 s3.r s3.p s3.o pr 0 po;unfold xH at a986;generalize wr .i64 (s3.r+pr)=A at a986 hA;generalize wr .i64 (s3.p+0)=B at a986 hA;generalize wr .i64 (s3.o+po)=D at a986 hA;simp only[Pv.av,mO,r13,go_sem,seval];refine aC a986 ?_;simp only[r13,ew3,go_sem,seval];exact⟨⟨A,B,D,0⟩,rfl,o4.mono (by rw[aB,if_neg (by omega)];exact w37 _ _ _ (by omega)),by rw[aZ.cells_av]at r1;exact r1,r5,rfl,rfl,hA⟩
  ·rintro d2 l r2 e hp hes2 ⟨v11,k1,rfl,hk1,o11,q1,q5,q13⟩;obtain⟨hget2,e12,e22,ew2⟩:=eD hes2 hlb;obtain⟨i,hi⟩:=x3 d2.length l hget2;have hxl:env.length+d2.length<x.length:=by have:=cF.1 hi;exact this.1
   have hpi:((ptV env.length x).map aV)[d2.length]?=some (.int .i64 i):=by unfold ptV;simp[List.getElem?_map,List.getElem?_drop,hi,aV]
   have hpe:ptA env.length x = .sl (decide ((ptV env.length x).map aV=[])) ((ptV env.length x).map aV) (decide ((ptV env.length x).map aV=[])):=TD _;generalize decide ((ptV env.length x).map aV=[])=pb2 at hpe;rw[hpe];simp only[F3,F6,e12,e22,hget2,hpi,go_sem,seval];have f:∀o1 o2 q,q≠21->((hp.put 21 (hp.next 21) o1).put 21 (hp.next 21) o2).get q=hp.get q:=λo1 o2 q hq=>by rw[aB,if_neg (Ne.symm hq),aB,if_neg (Ne.symm hq)]
   refine yL (kb:=0) (s:=25) (k1:=k1) (bytes:=24) (es:=(x.take (env.length+d2.length)).map Val.av) (xs:=[Val.av ⟨l.v,i⟩]) (o11.mono (f _ _ _ (by omega))) (El.vals _) (El.vals [⟨l.v,i⟩]) (by simp) ?_ (by decide) ?_;simp only[cP,List.length_take,List.length_cons,List.length_nil,big]at *;omega;intro v' rd pa ho2 hk2;have z1:=(hk2 1 (by decide) (by omega)).trans ((f _ _ 1 (by decide)).trans q1);have z5:=(hk2 5 (by decide) (by omega)).trans ((f _ _ 5 (by decide)).trans q5);have z13:=(hk2 13 (by decide) (by omega)).trans ((f _ _ 13 (by decide)).trans q13);have hsnoc:(x.take (env.length+(d2++[l]).length)).map Val.av=(x.take (env.length+d2.length)).map Val.av++[Val.av ⟨l.v,i⟩]:=by
    have:env.length+(d2++[l]).length=env.length+d2.length+1:=by simp;omega
    rw[this,List.take_succ,hi,List.map_append];rfl
   refine Wk ?_;refine And.intro (by simp[cW,dC,R.apart,R.uses,X.tmp,Eff.apart,Nat.testBit,jR,jQ]) ?_
   try simp only[ew2,go_sem,seval]
   exact⟨v',25,rfl,.inr rfl,by rw[hsnoc];exact ho2,z1,z5,z13⟩
end
end
section
def Sr(er:Nat)(wk:Int)(h:Hp):Prop:=h.get 17=some (er,.blk [.int .i64 wk,.int .i64 0] 2 true true false)
def o9(h h':Hp)(kb:Nat):Prop:=(∀q,q<kb->q≠17->h'.get q=h.get q)/\∀q,h.get q≠none->h'.get q≠none
theorem o9.refl(h:Hp)(kb:Nat):o9 h h kb:=⟨λ_ _ _=>rfl,λ_ h=>h⟩
theorem o9.trans{h h' h'':Hp}{kb kb':Nat}(a:o9 h h' kb)(b:o9 h' h'' kb')(hk:kb<=kb'):o9 h h'' kb:=
 ⟨λq h1 h2=>(b.1 q (by omega) h2).trans (a.1 q h1 h2),λq hq=>b.2 q (a.2 q hq)⟩
theorem o9.put{h h':Hp}{kb k e:Nat}{o:Ob}(a:o9 h h' kb)(hk:kb<=k\/k=17):o9 h (h'.put k e o) kb:=
 ⟨λq h1 h2=>by rw[aB,if_neg (by omega)];exact a.1 q h1 h2,tZ k e o a.2⟩
theorem o9.of_get{h h' H:Hp}{kb:Nat}(q:o9 h h' kb)(hg:∀q,H.get q=h'.get q):o9 h H kb:=⟨λx a b=>(hg x).trans (q.1 _ a b),λa hq=>by rw[hg];exact q.2 a hq⟩
theorem Sr.mono{er:Nat}{wk:Int}{h h':Hp}(o:Sr er wk h)(h1:h'.get 17=h.get 17):Sr er wk h':=h1.trans o
theorem Sr.of_get{er:Nat}{wk:Int}{h' H:Hp}(q:Sr er wk h')(hg:∀q,H.get q=h'.get q):Sr er wk H:=q.mono (hg _)
section
variable{pg:Pg}{kb:Nat}
theorem XJ{k1 esz bytes s:Nat}{ag:Bool}{h:Hp}{v:AV}{es xs:List AV}{nl cl:Bool}{Q:AV->Eff->Prop}{t:Tok Q}(o:Own h k1 esz ag v es)(hk:k1≠kb+s)(he:∀x∈es,El esz ag x)(hx:∀x∈xs,El esz ag x)(hn:xs≠[])
  (hl:es.length+xs.length<=1073741824) (hb:bytes<=65536)
  (q:∀v' rd pa,Own (Eff.app h (.pat rd pa)) (kb+s) esz ag v' (es++xs)->(∀k,k≠k1->k≠kb+s->(Eff.app h (.pat rd pa)).get k=h.get k)->(∀k,h.get k≠none->(Eff.app h (.pat rd pa)).get k≠none)->(∀x∈pa,x.k=k1\/x.k=kb+s)->Q v' (.pat rd pa)) :
  XO pg kb (.app esz ag bytes) s h [v,.sl nl xs cl] Q t:=by
 rcases o with ⟨hnil,nl',cl',rfl,hc⟩|⟨e,cs,rfl,hg,hu⟩
 subst hnil;refine aBR hc hx hn (by simpa using hl) hb ?_;intro ds hds;refine q _ _ _ (.inr ⟨h.next (kb+s),ds,by simp,?_,by simpa using hds⟩) ?_ ?_ ?_;show (h.put (kb+s) (h.next (kb+s)) (.blk ds esz ag false false)).get (kb+s)=_;rw[aB,if_pos rfl];intro k _ h2;show (h.put (kb+s) (h.next (kb+s)) (.blk ds esz ag false false)).get k=_;rw[aB,if_neg (Ne.symm h2)];exact tZ _ _ _ (λq h=>h);intro x hx;simp only[List.mem_singleton]at hx;rw[hx];exact .inr rfl;refine aBP (k1:=k1) (es:=es) rfl hg hu hk he hx hn hl hb ?_;intro ds hds;refine q _ _ _ (.inr ⟨h.next (kb+s),ds,by simp,?_,hds⟩) ?_ ?_ ?_;show ((h.put k1 e .dead).put (kb+s) (h.next (kb+s)) (.blk ds esz ag false false)).get (kb+s)=_;rw[aB,if_pos rfl];intro k h1 h2;show ((h.put k1 e .dead).put (kb+s) (h.next (kb+s)) (.blk ds esz ag false false)).get k=_;rw[aB,if_neg (Ne.symm h2),aB,if_neg (Ne.symm h1)];exact tZ _ _ _ (tZ _ _ _ (λq h=>h));intro x hx;simp only[List.mem_cons,List.not_mem_nil,or_false]at hx;rcases hx with rfl|rfl;exact .inl rfl;exact .inr rfl
end
section
variable{pg:Pg}
end
end
section
def BN(s m q:Int):Prop:=0<=q/\q<=m/\(0<q->s+q=m)
def X0(p:aA)(env:List Val)(m:Int)(r:AV):Prop:=∃q:Int,r = .int .i64 q/\BN (oT p env).n m q
theorem aKa{i m q q':Int}(a:i<=m-q)(b:q'+1<=q):i+1<=m-q':=by omega
theorem aJZ{i M:Int}{k:Nat}(a:k+1=(M-i).toNat):k=(M-(i+1)).toNat:=by omega
theorem aJY{s n c q q' m:Int}(a:n+q=m)(b:c+q'=q):n+c+q'=m:=by omega
section
variable{pg:Pg}
theorem c991(hf:pg.fs 991=some wY)(enl ecl:Bool)(env:List Val)(heb:env.length<big)(name:Str)(i:Int):bV pg 991 [.sl enl (env.map Val.av) ecl,.str name.bs,.int .i64 i] (pH 2 true ((env++[(⟨name,i⟩:Val)]).map Val.av)):=by refine bV.ofX hf ?_;unfold wY;refine Wk ?_;refine kW (kb:=0) (s:=1) (bytes:=24) (es:=[]) (xs:=env.map Val.av) (Own.nil _ _ _ _ _ _ rfl) (by simp) (El.vals env) ?_ (by decide) ?_;simp only[List.length_nil,cP,big]at *;omega;intro v1 rd pa ho hk hpa;refine Wk ?_;rw[List.nil_append]at ho;have ho':Own (Eff.app [] (.pat rd pa)) 1 2 true v1 (env.map Val.av):=ho;refine XJ (kb:=0) (s:=5) (k1:=1) (bytes:=24) (es:=env.map Val.av) ho' (by decide) (El.vals env) (xs:=[Val.av ⟨name,i⟩]) (El.vals [⟨name,i⟩]) (by simp) (by simp only[cP,List.length_singleton,big]at *;omega) (by decide) ?_;intro v2 rd2 pa2 ow2 hg2 hn2 hp2;refine Wk ?_;rw[List.map_append];exact ow2.conv (El.vals (env++[⟨name,i⟩]) |> λh x hx=>h x (by rw[List.map_append];exact hx))
set_option maxRecDepth 100000 in
set_option maxHeartbeats 1000000 in
theorem c979(hf:pg.fs 979=some J3)(h991:pg.fs 991=some wY)(h34:∀(l:Lin) (nl cl:Bool) (ds:List Val),ds.length<=big->Ret pg 34 [l.av,.sl nl (ds.map Val.av) cl] (.tup [.int .i64 (aO ds l).1,.int .i64 (aO ds l).2]))(vals:Int) :
  ∀p:aA,p.ok->∀env,env.length+p.sz<=big->cD vals p (env.map (·.v))=true->∀(enl ecl:Bool)(m:Int),0<=m->m<=30000->bV pg 979 [p.av,.sl enl (env.map Val.av) ecl,.int .i64 m] (X0 p env m):=by
 refine aA.ind' λp ih hpo env hsz hv enl ecl m hm0 hm1=>?_;obtain⟨hb,hks⟩:=(aA.ok_iff p).1 hpo;have hps:=aA.sz_eq p;have heb:env.length<=big:=by omega
 obtain⟨S,hS⟩:∃S,S=oT p env:=⟨_,rfl⟩
 have hR:X0 p env m=λr=>∃q:Int,r = .int .i64 q/\BN S.n m q:=by rw[hS];rfl
 rw[hR];rw[PT]at hS;clear hR;have w1:wr .i64 (m-1)=m-1:=lA (by omega) (by omega);refine bV.ofX hf ?_;unfold J3;cases b0:decide (m-1<=0)
 case true=>
  simp only[w1,b0,go_sem,seval]
  first|exact⟨Int.le_refl _,hm0,λh=>by omega⟩|exact⟨0,rfl,Int.le_refl _,hm0,λh=>by omega⟩
 have m1:=aN b0;cases bI:decide (p.op.bs=[105,102])
 case true=>
  have mI:=aG bI;obtain⟨k0,k1,l,hk,hat,v0,v1⟩:=tF hv mI;have hk0:p.kids[0]?=some k0:=by rw[hk];rfl
  have hk1:p.kids[1]?=some k1:=by rw[hk];rfl
  have hl0:p.at_.es[0]?=some l:=by rw[hat];rfl
  have m0:k0∈p.kids:=by rw[hk];simp
  have m1':k1∈p.kids:=by rw[hk];simp
  have sz0:=aA.szL_mem m0;have sz1:=aA.szL_mem m1';have hat':atC env p=(aO env l).1:=by simp only[atC,hat]
  have hSI:S=Cs.add ⟨1,0,0⟩ (if (aO env l).1<0 then oT k1 env else oT k0 env):=by rw[hS];unfold R2;rw[if_pos mI,hk,hat'];rfl
  have a34:=h34 l enl ecl env heb;rw[Lin.avc]at a34;simp only[w1,b0,bI,hl0,go_sem,seval]
  try rw[Lin.avc]
  refine aC a34 ?_;cases bn:decide ((aO env l).1<0);obtain⟨r,a,q,rfl,i1,i2,i3⟩:=ih k0 m0 (hks k0 m0) env (by omega) v0 enl ecl (m-1) (by omega) (by omega);simp only[bn,hk0,go_sem,seval];refine aC a (Wk ?_);rw[if_neg (aN bn)]at hSI;have hq:BN S.n m q:=⟨i1,by omega,λh=>by have:=i3 h;rw[hSI];simp only[Cs.add];omega⟩
  first|exact hq|exact⟨q,rfl,hq⟩
  obtain⟨r,a,q,rfl,i1,i2,i3⟩:=ih k1 m1' (hks k1 m1') env (by omega) v1 enl ecl (m-1) (by omega) (by omega);simp only[bn,hk1,go_sem,seval];refine aC a (Wk ?_);rw[if_pos (aG bn)]at hSI;have hq:BN S.n m q:=⟨i1,by omega,λh=>by have:=i3 h;rw[hSI];simp only[Cs.add];omega⟩
  first|exact hq|exact⟨q,rfl,hq⟩
 have mI:=aN bI;cases bR:decide (p.op.bs=[114,101,100,117,99,101])
 case true=>
  have mR:=aG bR;obtain⟨k0,k1,l,hk,hat,v0,v1,_⟩:=qM hv mR;have hk0:p.kids[0]?=some k0:=by rw[hk];rfl
  have hk1:p.kids[1]?=some k1:=by rw[hk];rfl
  have hl0:p.at_.es[0]?=some l:=by rw[hat];rfl
  have m0:k0∈p.kids:=by rw[hk];simp
  have m1':k1∈p.kids:=by rw[hk];simp
  have sz0:=aA.szL_mem m0;have sz1:=aA.szL_mem m1';have hat':atC env p=(aO env l).1:=by simp only[atC,hat]
  have hSR:S=Cs.add ⟨1,0,0⟩ ((oT k0 env).add (CW (eL p.fn.es) p.name (oT k1) env (aO env l).1.toNat 0)):=by rw[hS];unfold R2;rw[if_neg mI,if_pos mR,hk,hat'];rfl
  have a34:=h34 l enl ecl env heb;rw[Lin.avc]at a34;obtain⟨r,a,q,rfl,i1,i2,i3⟩:=ih k0 m0 (hks k0 m0) env (by omega) v0 enl ecl (m-1) (by omega) (by omega);simp only[w1,b0,bI,bR,hk0,go_sem,seval];refine aC a ?_;simp only[hl0,go_sem,seval]
  try rw[Lin.avc]
  refine aC a34 (Wk ?_);obtain⟨M,hM⟩:∃M,M=(aO env l).1:=⟨_,rfl⟩
  rw[<-hM]at hSR ⊢
  refine kV (λa:Nat=>a) (λk e hp=>∃(i q:Int),e=x8 (.sl enl (env.map Val.av) ecl) (.int .i64 q) (.pt 1 0 0) (.int .i64 M) (.int .i64 i)/\hp.get 1=some (0,.blk (pU p p.kids) 9 true true false)/\0<=q/\q<=m/\0<=i/\i<=m-q/\k=(M-i).toNat /\
   (0<q->∃n:Nat,(n:Int)+q=m/\S.n=n+(CW (eL p.fn.es) p.name (oT k1) env k i).n)) M.toNat ?_ ?_
  refine⟨0,q,rfl,rfl,i1,by omega,Int.le_refl _,by omega,by omega,λh=>⟨1+(oT k0 env).n,by have:=i3 h;omega,?_⟩⟩;rw[hSR];simp only[Cs.add];omega;rintro k e hp ⟨i,q,rfl,g1,j1,j2,j3,j4,hk',j5⟩;have g0:=g1;simp only[pU]at g1;cases b1:decide (i<M);have hk0':k=0:=by simp at b1;omega
  subst hk0';simp only[xZ,x8,b1,go_sem,seval];have hq:BN S.n m q:=⟨j1,j2,λh=>by obtain⟨n,n1,n2⟩:=j5 h;rw[n2];simp only[CW];omega⟩
  first|exact hq|exact⟨q,rfl,hq⟩
  cases b2:decide (0<q);have hq0:=aN b2;simp only[xZ,x8,b1,b2,go_sem,seval];have hq:BN S.n m q:=⟨j1,j2,λh=>by omega⟩
  first|exact hq|exact⟨q,rfl,hq⟩
  have hiM:i<M:=aG b1;have hq0:=aG b2;obtain⟨k',rfl⟩:∃k',k=k'+1:=⟨k-1,by omega⟩
  have wi:wr .i64 (i+1)=i+1:=lA (by omega) (by omega);obtain⟨n,n1,n2⟩:=j5 hq0;have hb2:env.length<big:=by omega
  simp only[xZ,x8,b1,b2,g1,hk1,go_sem,seval];refine EH (c991 h991 enl ecl env hb2 p.name i) (by simp only[go_sem,seval]) ?_;intro nl5 cl5 hnl5;obtain⟨r,a,q',rfl,l1,l2,l3⟩:=ih k1 m1' (hks k1 m1') (env++[⟨p.name,i⟩]) (by simp only[cO,List.length_singleton];omega) (by rw[pY];exact v1) nl5 cl5 q j1 (by omega);refine Wk ?_;refine aC a (Wk ?_);refine cN ?_;have hp1:=JX k1 (env++[(⟨p.name,i⟩:Val)]);have hqq:q'+1<=q:=by by_cases h:0<q';have:=l3 h;omega;omega
  rw[wi];have x2:q'<=m:=by omega
  have x3:0<=i+1:=by omega
  have x4:i+1<=m-q':=aKa j4 hqq;have x5:k'=(M-(i+1)).toNat:=aJZ hk';have x6:0<q'->((n+(oT k1 (env++[(⟨p.name,i⟩:Val)])).n:Nat):Int)+q'=m:=λh=>by rw[Int.natCast_add];exact aJY (s:=0) n1 (l3 h)
  refine⟨k',Nat.lt_succ_self _,i+1,q',rfl,g0,l1,x2,x3,x4,x5,λh=>⟨n+(oT k1 (env++[(⟨p.name,i⟩:Val)])).n,x6 h,?_⟩⟩;rw[n2];simp only[CW,Cs.add];omega
 have mR:=aN bR;have hkv:=l0 hv mR;have hSO:S=(lQ p).add (QU (p.kids.map oT) env):=by rw[hS];unfold R2;rw[if_neg mI,if_neg mR]
 simp only[w1,b0,bI,bR,go_sem,seval]
 refine aQ p.kids (λd r e hp=>∃q:Int,e=GC (.sl enl (env.map Val.av) ecl) (.int .i64 q) (.pt 1 0 0) (.int .i64 d.length)/\hp.get 1=some (0,.blk (pU p p.kids) 9 true true false)/\0<=q/\q<=m /\
  (0<q->∃n:Nat,(n:Int)+q=m/\S.n=n+(QU (r.map oT) env).n)) ?_ ?_ ?_
 refine⟨m-1,rfl,rfl,by omega,by omega,λ_=>⟨1,by omega,?_⟩⟩;rw[hSO];simp only[Cs.add,TV];rintro e hp ⟨q,rfl,g1,i1,i2,i3⟩;simp only[pU]at g1;simp only[GB,GC,bK,g1,go_sem,seval];have hq:BN S.n m q:=⟨i1,i2,λh=>by obtain⟨n,n1,n2⟩:=i3 h;rw[n2];simp only[List.map_nil,QU];omega⟩
 first|exact hq|exact⟨q,rfl,hq⟩
 rintro d x r e hp hes ⟨q,rfl,g1,i1,i2,i3⟩;have g0:=g1;simp only[pU]at g1;obtain⟨hget,e1,e2,ew⟩:=eD hes hb;have hxm:x∈p.kids:=by rw[hes];simp
 have szx:=aA.szL_mem hxm;obtain⟨r',a,q',rfl,j1,j2,j3⟩:=ih x hxm (hks x hxm) env (by omega) (hkv x hxm) enl ecl q i1 (by omega);simp only[GB,GC,e1,e2,g1,hget,go_sem,seval];refine aC a ?_;simp only[ew,go_sem,seval];refine⟨q',rfl,g0,j1,by omega,λh=>?_⟩;have h2:=j3 h;obtain⟨n,n1,n2⟩:=i3 (by have:=JX x env;omega);refine⟨n+(oT x env).n,by omega,?_⟩;rw[n2];simp only[List.map_cons,QU,Cs.add];omega
end
end
section
structure Vs where
 t:Int
 e:Int
 ps:List (List Val)
def jZ(f:Int->Vs->Vs)(hi st:Int):Nat->Int->Vs->Vs
 |0,_,s=>s
 |n+1,i,s=>if i<hi/\s.ps.length<=20000 then (if 240000<wr .i64 (s.t+1) then ⟨wr .i64 (s.t+1),3,s.ps⟩ else
   (if (f i ⟨wr .i64 (s.t+1),s.e,s.ps⟩).e=0 then jZ f hi st n (wr .i64 (i+st)) (f i ⟨wr .i64 (s.t+1),s.e,s.ps⟩) else f i ⟨wr .i64 (s.t+1),s.e,s.ps⟩)) else s
def nL:List Loop->List Val->Vs->Vs
 |[],env,s=>⟨s.t,0,s.ps++[env]⟩
 |l::r,env,s=>if (iU l env).2.2=0 then jZ (λi s=>nL r (env++[⟨l.v,i⟩]) s) (iU l env).2.1 l.step 240001 (iU l env).1 s else ⟨s.t,(iU l env).2.2,s.ps⟩
def LO(f:Vs->Vs):Prop:=∀s:Vs,0<=s.t->s.t<=240000->s.t<=(f s).t/\((f s).e=0->(f s).t<=240000)
theorem IM{f:Int->Vs->Vs}{hi st:Int}(hf:∀i,LO (f i)):∀(n:Nat)(i:Int),LO (jZ f hi st n i)
 |0,i,s,h0,h1=>⟨Int.le_refl _,λ_=>h1⟩
 |n+1,i,s,h0,h1=>by have w:wr .i64 (s.t+1)=s.t+1:=lA (by omega) (by omega);unfold jZ;rw[w];split;split;exact⟨by simp only;omega,λh=>by simp at h⟩;rename_i hlt;obtain⟨a,b⟩:=hf i ⟨s.t+1,s.e,s.ps⟩ (by simp only;omega) (by simp only;omega);simp only at a;split;rename_i he;have b':=b he;obtain⟨c,d⟩:=IM hf n (wr .i64 (i+st)) (f i ⟨s.t+1,s.e,s.ps⟩) (by omega) b';exact⟨by omega,d⟩;exact⟨by omega,b⟩;exact⟨Int.le_refl _,λ_=>h1⟩
theorem L7:∀(r:List Loop)(env:List Val),LO (nL r env)
 |[],env,s,h0,h1=>⟨Int.le_refl _,λ_=>h1⟩
 |l::r,env,s,h0,h1=>by rw[nL];split;exact IM (λi=>L7 r _) _ _ s h0 h1;exact⟨Int.le_refl _,λ_=>h1⟩
def PsR:List (List Val)->List AV->Prop
 |[],[]=>True
 |x::r,v::s=>(∃nl cl,v = .sl nl (x.map Val.av) cl)/\PsR r s
 |_,_=>False
theorem PsR.len:∀{ps:List (List Val)}{es:List AV},PsR ps es->es.length=ps.length
 |[],[],_=>rfl
 |_::_,_::_,h=>by simp only[List.length_cons];rw[PsR.len h.2]
 |[],_::_,h=>h.elim
 |_::_,[],h=>h.elim
theorem PsR.snoc{x:List Val}{nl cl:Bool}:∀{ps:List (List Val)}{es:List AV},PsR ps es->PsR (ps++[x]) (es++[.sl nl (x.map Val.av) cl])
 |[],[],_=>⟨⟨nl,cl,rfl⟩,trivial⟩
 |_::_,_::_,h=>⟨h.1,PsR.snoc h.2⟩
 |[],_::_,h=>h.elim
 |_::_,[],h=>h.elim
theorem PsR.get{x:List Val}:∀{ps:List (List Val)}{es:List AV}{i:Nat},PsR ps es->ps[i]?=some x->∃nl cl,es[i]?=some (.sl nl (x.map Val.av) cl)
 |[],[],_,_,h=>by simp at h
 |y::r,v::s,0,h,hx=>by simp only[List.getElem?_cons_zero,aU]at hx;subst hx;obtain⟨nl,cl,rfl⟩:=h.1;exact⟨nl,cl,rfl⟩
 |y::r,v::s,i+1,h,hx=>by simp only[List.getElem?_cons_succ]at hx ⊢;exact PsR.get h.2 hx
 |[],_::_,_,h,_=>h.elim
 |_::_,[],_,h,_=>h.elim
theorem El.slv(nl cl:Bool)(x:List Val):El 1 false (.sl nl (x.map Val.av) cl):=⟨rfl,rfl,by simp only[AV.tree];exact Val.treeL_av x⟩
theorem PsR.el:∀{ps:List (List Val)}{es:List AV},PsR ps es->∀v∈es,El 1 false v
 |[],[],_,v,h=>by simp at h
 |_::_,_::_,h,v,hv=>by rcases List.mem_cons.1 hv with rfl|hv;obtain⟨nl,cl,rfl⟩:=h.1;exact El.slv nl cl _;exact PsR.el h.2 v hv
 |[],_::_,h,_,_=>h.elim
 |_::_,[],h,_,_=>h.elim
theorem Own.lenF{h:Hp}{k0 esz:Nat}{ag:Bool}{v:AV}{es:List AV}(o:Own h k0 esz ag v es)(hh:Hp):oC hh 1 [v]=some (.int .i64 es.length,.pat [] []):=by rcases o with ⟨rfl,nl,cl,rfl,hc⟩|⟨e,cs,rfl,hg,hu⟩<;>simp[oC,val]
structure VH(s:Vs)(h:Hp):Prop where
 out:∃v es k,h.get 13=some (0,.blk [v,.int .i64 s.t] 2 true true false)/\Own h k 1 false v es/\PsR s.ps es/\65536<=k/\k % 65536=5
def BO(h h':Hp)(kb:Nat):Prop:=∀q,q≠13->q % 65536≠5->q<kb->h'.get q=h.get q
section
variable{pg:Pg}
set_option maxRecDepth 100000 in
set_option maxHeartbeats 2000000 in
theorem c1010(hf:pg.fs 1010=some s7)(h991:pg.fs 991=some wY)(h1011:∀(l:Loop) (nl cl:Bool) (env:List Val),env.length<=big->Ret pg 1011 [l.av,.sl nl (env.map Val.av) cl] (rZ l env))(n:aZ) :
  ∀(r d:List Loop),n.loops.es=d++r->∀(env:List Val)(nl cl:Bool)(kb:Nat)(h:Hp)(s:Vs),env.length+r.length<=big->65536<=kb->kb % 65536=0->s.e=0->0<=s.t->s.t<=240000->s.ps.length<=20000->VH s h ->
   fD pg 1010 [.pt 13 0 0,n.av,.int .i64 d.length,.sl nl (env.map Val.av) cl] kb h (λr' h'=>BO h h' kb/\VH (nL r env s) h'/\r' = .int .i64 (nL r env s).e)
 |[],d,hLd,env,nl,cl,kb,h,s,hsz,hkb,hkb2,hs,ht0,ht1,hpl,hV=>by
  have hdl:d.length=n.loops.es.length:=by rw[hLd];simp
  have e0:decide ((d.length:Int)=(n.loops.es.length:Int))=true:=by simp[hdl]
  obtain⟨v,es,k,g13,ho,hp,hk1,hk2⟩:=hV.out;refine fD.ofX hf ?_;unfold s7;have n13:(kb=12)=False:=eq_false (by omega);have n13':(12=kb)=False:=eq_false (by omega);obtain⟨H0,hH0⟩:∃H0:Hp,H0=h.put (kb+1) (h.next (kb+1)) (.blk (aZ.av n).cells 23 true true false):=⟨_,rfl⟩
  have o0:∀q,q≠kb+1->H0.get q=h.get q:=λq hq=>by rw[hH0,aB,if_neg (Ne.symm hq)]
  rw[aZ.cells_av]at hH0;simp only[e0,g13,n13,n13',go_sem,seval];rw[<-hH0];refine yL (kb:=kb) (s:=5) (k1:=k) (bytes:=24) (es:=es) (xs:=[.sl nl (env.map Val.av) cl]) (ho.mono (o0 k (by omega))) hp.el (by intro y hy;simp at hy;subst hy;exact El.slv _ _ _) (by simp) (by rw[hp.len];simp only[List.length_cons,List.length_nil];omega) (by decide) ?_;intro v' rd pa ho2 hkk;have q13:=((hkk 13 (by omega) (by omega)).trans (o0 13 (by omega))).trans g13;have kk:∀q,q≠kb+5->q≠k->q≠kb+1->(Eff.app H0 (.pat rd pa)).get q=h.get q:=λq a b c=>(hkk q a b).trans (o0 q c);generalize Eff.app H0 (.pat rd pa)=H3 at ho2 q13 kk ⊢;obtain⟨fv1,fv2,fv3⟩:=ho2.one;have fv4:bC [v']=true:=by simp[bC,fv2]
  simp only[q13,fv1,fv2,fv3,fv4,go_sem,seval];refine⟨λq a b c=>?_,⟨v',_,kb+5,by rw[aB,if_pos rfl];rfl,ho2.mono (by rw[aB,if_neg (by omega)]),hp.snoc,by omega,by omega⟩,rfl⟩;rw[aB,if_neg (Ne.symm a)];exact kk q (by omega) (by omega) (by omega)
 |l::r,d,hLd,env,nl,cl,kb,h,s,hsz,hkb,hkb2,hs,ht0,ht1,hpl,hV=>by
  have hlb:=n.loops.ok;have hdl:d.length<n.loops.es.length:=by rw[hLd];simp
  have hget:n.loops.es[d.length]?=some l:=by rw[hLd];simp
  have hLd2:n.loops.es=(d++[l])++r:=by rw[hLd];simp
  have heb:env.length+1<=big:=by simp only[List.length_cons]at hsz;omega
  obtain⟨S,hS⟩:∃S,S=nL (l::r) env s:=⟨_,rfl⟩
  rw[<-hS];rw[nL]at hS;have a1011:=h1011 l nl cl env (by omega);obtain⟨⟨lo,hi,eb⟩,hB⟩:∃B,iU l env=B:=⟨_,rfl⟩
  rw[nF hB,Loop.avc]at a1011;rw[hB]at hS;dsimp only at hS;obtain⟨v,es,k0,g13,ho,hp,hk1,hk2⟩:=hV.out;refine fD.ofX hf ?_;unfold s7;have e0:decide ((d.length:Int)=(n.loops.es.length:Int))=false:=by simp;omega
  have e1:((d.length:Int)<(n.loops.es.length:Int))=True:=eq_true (by omega);simp only[e0,e1,hget,go_sem,seval];refine aC a1011 ?_;have n13:(kb=12)=False:=eq_false (by omega);have n13':(12=kb)=False:=eq_false (by omega);have n4:(kb=4)=False:=eq_false (by omega);have n4':(4=kb)=False:=eq_false (by omega);obtain⟨H1,hH1⟩:∃H1:Hp,H1=((h.put (kb+1) (h.next (kb+1)) (.blk (aZ.av n).cells 23 true true false)).put (kb+9) (h.next (kb+9)) (.blk [.str [],.int .i64 0,.sl true [] true,.sl true [] true,.int .i64 0] 5 true true false)).put (kb+9) (h.next (kb+9)) (.blk (Loop.av l).cells 5 true true false):=⟨_,rfl⟩
  have o1:∀q,q≠kb+1->q≠kb+9->H1.get q=h.get q:=λq a b=>by rw[hH1,aB,if_neg (Ne.symm b),aB,if_neg (Ne.symm b),aB,if_neg (Ne.symm a)]
  have z1:H1.get (kb+1)=some (h.next (kb+1),.blk (aZ.av n).cells 23 true true false):=by rw[hH1,aB,if_neg (by omega),aB,if_neg (by omega),aB,if_pos rfl]
  have z9:H1.get (kb+9)=some (h.next (kb+9),.blk (Loop.av l).cells 5 true true false):=by rw[hH1,aB,if_pos rfl]
  have V1:VH s H1:=⟨v,es,k0,(o1 13 (by omega) (by omega)).trans g13,ho.mono (o1 k0 (by omega) (by omega)),hp,hk1,hk2⟩
  have K1:BO h H1 kb:=λq a b c=>o1 q (by omega) (by omega);rw[aZ.cells_av,Loop.cells_av]at hH1;cases be:decide (eb=0);have hne:=aN be;rw[if_neg hne]at hS;simp only[be,go_sem,seval];rw[<-hH1,hS];exact⟨K1,⟨V1.out⟩,rfl⟩;have hb0:=aG be;rw[if_pos hb0]at hS;obtain⟨F,hF⟩:∃F:Int->Vs->Vs,F=λi s=>nL r (env++[⟨l.v,i⟩]) s:=⟨_,rfl⟩
  rw[<-hF]at hS;have hFt:∀i,LO (F i):=λi=>by rw[hF];exact L7 r _
  simp only[be,go_sem,seval];rw[<-hH1];generalize h.next (kb+1)=E1 at z1 ⊢;generalize h.next (kb+9)=E9 at z9 ⊢
  refine kV (λa:Nat=>a) (λk e hp=>∃(i:Int)(s1:Vs),e=qH (.pt 13 0 0) (.int .i64 d.length) (.sl nl (env.map Val.av) cl) (.pt (kb+1) E1 0) (.pt (kb+9) E9 0) (.int .i64 hi) (.int .i64 i) /\
   BO h hp kb/\hp.get (kb+1)=some (E1,.blk (aZ.av n).cells 23 true true false)/\hp.get (kb+9)=some (E9,.blk (Loop.av l).cells 5 true true false)/\s1.e=0/\0<=s1.t/\s1.t<=240000/\240001<=(k:Int)+s1.t/\VH s1 hp/\S=jZ F hi l.step k i s1) 240001 ?_ ?_
  exact⟨lo,s,rfl,K1,z1,z9,hs,ht0,ht1,by omega,V1,hS⟩
  ·rintro k e hp2 ⟨i,s1,rfl,hK,z1,z9,hs1,t0,t1,hk,hV1,hT⟩;obtain⟨v,es,k0,g13,ho,hp,hk1,hk2⟩:=hV1.out;have hln:=ho.lenF;rw[hp.len]at hln;have z1':=z1;have z9':=z9;rw[aZ.cells_av]at z1';rw[Loop.cells_av]at z9'
   have stop:¬(i<hi/\s1.ps.length<=20000)->S=s1:=λhn=>by
    rw[hT];cases k with
    |zero=>rfl
    |succ k=>rw[jZ,if_neg hn]
   cases bi:decide (i<hi);have hni:=aN bi;simp only[qG,qH,bi,go_sem,seval];rw[stop (λh=>hni h.1)];exact⟨hK,hV1,by rw[hs1]⟩;cases bl:decide ((s1.ps.length:Int)<=20000);have hni:=aN bl;simp only[qG,qH,bi,g13,↓hln,bl,go_sem,seval];rw[stop (λh=>hni (by omega))];exact⟨hK,hV1,by rw[hs1]⟩;have hii:=aG bi;have hll:s1.ps.length<=20000:=by have:=aG bl;omega
   obtain⟨k',rfl⟩:∃k',k=k'+1:=⟨k-1,by omega⟩
   have w:wr .i64 (s1.t+1)=s1.t+1:=lA (by omega) (by omega);rw[jZ,if_pos ⟨hii,hll⟩,w]at hT;obtain⟨H2,hH2⟩:∃H2:Hp,H2=hp2.put 13 0 (.blk [v,.int .i64 (s1.t+1)] 2 true true false):=⟨_,rfl⟩
   have o2:∀q,q≠13->H2.get q=hp2.get q:=λq hq=>by rw[hH2,aB,if_neg (Ne.symm hq)]
   have V2:VH ⟨s1.t+1,s1.e,s1.ps⟩ H2:=⟨v,es,k0,by rw[hH2,aB,if_pos rfl],ho.mono (o2 k0 (by omega)),hp,hk1,hk2⟩
   have K2:BO h H2 kb:=λq a b c=>(o2 q a).trans (hK q a b c);have y1:=(o2 (kb+1) (by omega)).trans z1;have y9:=(o2 (kb+9) (by omega)).trans z9;have y1':=(o2 (kb+1) (by omega)).trans z1';have y9':=(o2 (kb+9) (by omega)).trans z9';cases bt:decide (240000<s1.t+1)
   case true=>rw[if_pos (aG bt)]at hT;simp only[qG,qH,bi,g13,↓hln,bl,w,bt,go_sem,seval];rw[<-hH2,hT];exact⟨K2,⟨V2.out⟩,rfl⟩
   rw[if_neg (aN bt)]at hT;have ewd:wr .i64 ((d.length:Int)+1)=((d++[l]).length:Int):=by rw[lA (by omega) (by simp only[big]at hlb;omega)];simp
   simp only[qG,qH,bi,g13,↓hln,bl,w,bt,z1',z9',n13,n13',n4,n4',ewd,go_sem,seval];refine EH (c991 h991 nl cl env (by omega) l.v i) (by simp only[go_sem,seval]) ?_;intro nl2 cl2 _;rw[<-hH2];have ih:=c1010 hf h991 h1011 n r (d++[l]) hLd2 (env++[⟨l.v,i⟩]) nl2 cl2 ((kb+21+1)*65536) H2 ⟨s1.t+1,s1.e,s1.ps⟩ (by simp only[cO,List.length_cons,List.length_nil]at hsz ⊢;omega) (by omega) (by omega) hs1 (by show 0<=s1.t+1;omega) (by show s1.t+1<=240000;have:=aN bt;omega) hll V2;obtain⟨s2,hs2⟩:∃s2,s2=nL r (env++[⟨l.v,i⟩]) ⟨s1.t+1,s1.e,s1.ps⟩:=⟨_,rfl⟩
   have hFe:F i ⟨s1.t+1,s1.e,s1.ps⟩=s2:=by rw[hF,hs2]
   rw[<-hs2,aZ.avc]at ih;rw[hFe]at hT;obtain⟨m1,m2⟩:=hFt i ⟨s1.t+1,s1.e,s1.ps⟩ (by show 0<=s1.t+1;omega) (by show s1.t+1<=240000;have:=aN bt;omega);rw[hFe]at m1 m2;dsimp only at m1 m2;refine Wk ?_;refine jU (.inl rfl) (B:=(kb+21+1)*65536) rfl ih ?_;rintro r' h' ⟨k3,V3,rfl⟩;have K3:BO h h' kb:=λq a b c=>(k3 q a b (by omega)).trans (K2 q a b c);have x1:=(k3 (kb+1) (by omega) (by omega) (by omega)).trans y1;have x9:=(k3 (kb+9) (by omega) (by omega) (by omega)).trans y9;have x9':=(k3 (kb+9) (by omega) (by omega) (by omega)).trans y9';cases b2:decide (s2.e=0)
   ·have hn2:=aN b2;rw[if_neg hn2]at hT;simp only[b2,go_sem,seval];refine And.intro (by simp[cW,dC,R.apart,R.uses,X.tmp,Eff.apart,Nat.testBit,jR,jQ]) ?_
    try simp only[b2,go_sem,seval]
    rw[hT];exact⟨K3,V3,rfl⟩
   ·have he2:=aG b2;rw[if_pos he2]at hT;simp only[b2,x9',go_sem,seval];refine And.intro (by simp[cW,dC,R.apart,R.uses,X.tmp,Eff.apart,Nat.testBit,jR,jQ]) ?_
    try simp only[b2,x9',go_sem,seval]
    exact⟨k',by omega,_,s2,rfl,K3,x1,he2,by omega,m2 he2,by omega,V3,hT⟩
end
end
section
theorem zI{f:Int->Vs->Vs}{hi st:Int}{P:List Val->Prop}(hf:∀i s x,x∈(f i s).ps->x∈s.ps\/P x):∀(n:Nat)(i:Int)(s:Vs)(x:List Val),x∈(jZ f hi st n i s).ps->x∈s.ps\/P x
 |0,i,s,x,h => .inl h
 |n+1,i,s,x,h=>by unfold jZ at h;split at h;split at h;exact .inl h;split at h;rcases zI hf n _ _ x h with h|h;have:=hf i ⟨wr .i64 (s.t+1),s.e,s.ps⟩ x h;exact this;exact .inr h;have:=hf i ⟨wr .i64 (s.t+1),s.e,s.ps⟩ x h;exact this;exact .inl h
theorem IU:∀(L:List Loop)(env:List Val)(s:Vs)(x:List Val),x∈(nL L env s).ps->x∈s.ps\/pG L env x
 |[],env,s,x,h=>by unfold nL at h;rcases jW.1 h with h|h;exact .inl h;simp only[List.mem_singleton]at h;subst h;exact .inr ⟨by simp,by simp,λj l hl=>by simp at hl⟩
 |l::r,env,s,x,h=>by rw[nL]at h;split at h;exact zI (P:=pG (l::r) env) (λi s x hx=>(IU r _ s x hx).imp id pG.cons) _ _ s x h;exact .inl h
theorem pG.names{L:List Loop}{env x:List Val}(h:pG L env x):x.map (·.v)=env.map (·.v)++L.map (·.v):=by
 apply List.ext_getElem?;intro j;by_cases hj:j<env.length;rw[List.getElem?_append_left (by simpa using hj)];simp only[List.getElem?_map];have:=congrArg (λy:List Val=>y[j]?) h.pre;simp only[List.getElem?_take]at this;rw[if_pos hj]at this;rw[this];rw[u4 (by simpa using hj)];simp only[List.getElem?_map,cP];cases hl:L[j-env.length]? with
 |none=>have hle:L.length<=j-env.length:=List.getElem?_eq_none_iff.1 hl;have:x[j]?=none:=List.getElem?_eq_none_iff.2 (by rw[h.len];omega);rw[this];rfl
 |some l=>
  obtain⟨i,hi⟩:=h.at_ _ _ hl;have he:env.length+(j-env.length)=j:=by omega
  rw[he]at hi;rw[hi];rfl
theorem HR:∀{es:List AV},(∀x∈es,El 1 false x)->aP 1 false es=some es
 |[],_=>rfl
 |x::r,h=>by
  have hx:=h x (by simp);have hc:x.cells=[x]:=by have:=hx.isAgg;cases x<;>simp[AV.isAgg]at this<;>rfl
  have h1:=hx.one;rw[aP,hx.fits,h1,HR (λy hy=>h y (bT _ hy)),hc];rfl
theorem Own.iad{h:Hp}{k:Nat}{v y:AV}{es:List AV}{i:Nat}(o:Own h k 1 false v es)(he:∀x∈es,El 1 false x)(hy:es[i]?=some y) :
  ∃e,uG 1 false none [v,.int .i64 i]=some (.pt k e i,.pat [] [])/\h.get k=some (e,.blk es 1 false false false):=by
 rcases o with ⟨rfl,nl,cl,rfl,hc⟩|⟨e,cs,rfl,hg,hu⟩
 simp at hy;rw[HR he]at hu;cases hu;have hi:i<es.length:=(cF.1 hy).1;refine⟨e,?_,hg⟩;simp[uG,val];omega
theorem TA{k i:Nat}(h:k+i=20)(hi:i<20):19-i<k:=by omega
theorem S9{i:Nat}(hi:i<20):19-i+(i+1)=20:=by omega
def v6(n:aZ)(env:List Val):Prop:=(lR env/\eM n (env.map (·.v)) 1000=true)->(nL n.loops.es env ⟨0,0,[]⟩).t<=20000/\(nL n.loops.es env ⟨0,0,[]⟩).ps.length<=20
section
variable{pg:Pg}
set_option maxRecDepth 100000 in
set_option maxHeartbeats 2000000 in
theorem c1009(hf:pg.fs 1009=some BB)(h1010:pg.fs 1010=some s7)(h991:pg.fs 991=some wY)(h1011:∀(l:Loop) (nl cl:Bool) (env:List Val),env.length<=big->Ret pg 1011 [l.av,.sl nl (env.map Val.av) cl] (rZ l env))
  (h978:∀(enl ecl:Bool)(env:List Val),env.length<=big->bV pg 978 [.sl enl (env.map Val.av) ecl] (kI env))
  (n:aZ) (enl ecl:Bool) (env:List Val) (hsz:nT n (env.map (·.v))) (hsz2:env.length+n.loops.es.length<=big)
  (h558:∀(nl cl:Bool)(vars:List Str),(nl=true->vars=[])->nT n vars->∀values:Int,Ret pg 558 [n.av,.sl nl (vars.map Str.av) cl,.int .i64 values] (.bool (eM n vars values)))
  (h979:∀q∈cL n,∀x:List Val,pG n.loops.es env x->eM n (env.map (·.v)) 1000=true->∀(nl cl:Bool)(m:Int),0<=m->m<=30000->bV pg 979 [q.av,.sl nl (x.map Val.av) cl,.int .i64 m] (X0 q x m)) :
  bV pg 1009 [n.av,.sl enl (env.map Val.av) ecl,.int .i64 20,.int .i64 10000] (OC (v6 n env)):=by
 obtain⟨r,a978,hN⟩:=h978 enl ecl env (by omega);refine bV.ofX hf ?_;unfold BB;unfold kI at hN;split at hN
 rotate_left 1
 rename_i hd;subst hN;refine Wk ?_;refine aC a978 (Wk ?_);exact⟨true,rfl,λ_ h=>absurd h.1 hd⟩;rename_i hd;obtain⟨nl,cl,rfl,hnl⟩:=hN;have a558:=h558 nl cl (env.map (·.v)) (λh=>by simp[hnl h]) hsz 1000;rw[aZ.avc]at a558;refine Wk ?_;refine aC a978 (Wk ?_);refine aC a558 ?_;cases hv:eM n (env.map (·.v)) 1000;refine Wk ?_;exact⟨true,rfl,λ_ h=>by rw[hv]at h;cases h.2⟩;refine Wk ?_;obtain⟨W,hW⟩:∃W,W=nL n.loops.es env ⟨0,0,[]⟩:=⟨_,rfl⟩
 have hmem:∀x∈W.ps,pG n.loops.es env x:=λx hx=>by rw[hW]at hx;rcases IU _ _ _ _ hx with h|h;simp at h;exact h
 have i1010:=λH hH=>c1010 h1010 h991 h1011 n n.loops.es [] rfl env enl ecl ((17+1)*65536) H ⟨0,0,[]⟩ hsz2 (by omega) (by omega) rfl (Int.le_refl _) (by decide) (by simp) hH;simp only[List.length_nil,Int.natCast_zero]at i1010;rw[<-hW,aZ.avc]at i1010;refine jU (.inl rfl) (B:=(17+1)*65536) rfl (i1010 _ ?_) ?_;exact⟨.sl true [] true,[],65536+5,rfl,Own.nil _ _ _ _ _ _ rfl,trivial,by omega,by omega⟩;rintro r' h' ⟨k3,V3,rfl⟩;obtain⟨v,es,k0,g13,ho,hp,hk1,hk2⟩:=V3.out;have g1:=k3 1 (by decide) (by decide) (by decide);have hlen:=hp.len;have hln:=ho.lenF;rw[hlen]at hln;have hq1:h'.get 1=some (0,.blk (aZ.av n).cells 23 true true false):=by rw[g1,aZ.cells_av];rfl
 clear g1 i1010;cases bt:decide (20000<W.t)
 case true=>simp only[g13,bt,go_sem,seval];exact⟨false,rfl,λh=>by cases h⟩
 have ht:W.t<=20000:=by have:=aN bt;omega
 simp only[g13,bt,go_sem,seval];have fin:∀b:Bool,(b=true->W.ps.length<=20)->OC (v6 n env) (.bool b):=λb hb=>⟨b,rfl,λh _=>by rw[<-hW];exact⟨ht,hb h⟩⟩
 refine kV (λa:Nat=>a) (λk e hp2=>∃(i:Nat)(q:Int),e=oF (.int .i64 20) (.int .i64 q) (.pt 1 0 0) v (.int .i64 i)/\hp2.get 1=some (0,.blk (aZ.av n).cells 23 true true false)/\Own hp2 k0 1 false v es/\0<=q/\q<=10000/\k+i=20) 20 ?_ ?_;exact⟨0,10000,rfl,hq1,ho,by decide,by decide,rfl⟩
 ·rintro k e hp2 ⟨i,q,rfl,g1,ho,q0,q1,hk⟩;have g1':=g1;rw[aZ.cells_av]at g1';cases bi:decide ((i:Int)<(W.ps.length:Int));simp only[oE,oF,bi,↓hln,go_sem,seval];cases b1:decide ((W.ps.length:Int)<=20);simp only[b1,go_sem,seval];exact fin _ (λh=>by cases h);have hl20:=aG b1;simp only[b1,go_sem,seval];exact fin _ (λ_=>by omega);cases bm:decide ((i:Int)<20);simp only[oE,oF,bi,bm,↓hln,go_sem,seval];cases b1:decide ((W.ps.length:Int)<=20);simp only[b1,go_sem,seval];exact fin _ (λh=>by cases h);have hl20:=aG b1;simp only[b1,go_sem,seval];exact fin _ (λ_=>by omega);cases bq:decide (0<q);simp only[oE,oF,bi,bm,bq,↓hln,go_sem,seval];cases b1:decide ((W.ps.length:Int)<=20);simp only[b1,go_sem,seval];exact fin _ (λh=>by cases h);have hl20:=aG b1;simp only[b1,bq,go_sem,seval];exact fin _ (λ_=>by omega);have hil:i<W.ps.length:=by have:=aG bi;omega
  have him:i<20:=by have:=aG bm;omega
  obtain⟨x,hx⟩:∃x,W.ps[i]?=some x:=⟨_,cZ hil⟩
  obtain⟨nl2,cl2,hy⟩:=hp.get hx;obtain⟨e9,hiad,hg⟩:=ho.iad hp.el hy;have hPt:=hmem x (List.mem_of_getElem? hx);have ewi:wr .i64 ((i:Int)+1)=((i+1:Nat):Int):=by rw[lA (by omega) (by omega)];simp
  have hpb:n.body∈cL n:=by unfold cL;split<;>simp
  have second:∀m:Int,0<=m->m<=10000->∃q2:Int,Ret pg 979 [n.body.av,.sl nl2 (x.map Val.av) cl2,.int .i64 m] (.int .i64 q2)/\0<=q2/\q2<=10000:=λm m0 m1=>by obtain⟨r,a,q2,rfl,l1,l2,_⟩:=h979 n.body hpb x hPt hv nl2 cl2 m m0 (by omega);exact⟨q2,a,l1,by omega⟩
  cases bd:n.dyn
  ·obtain⟨q2,a2,l1,l2⟩:=second q q0 q1;rw[aA.avc]at a2;simp only[oE,oF,bi,bm,bq,↓hln,g1',bd,↓hiad,hg,hy,go_sem,seval];refine aC a2 (Wk ?_);refine And.intro (by simp[cW,dC,R.apart,R.uses,X.tmp,Eff.apart,Nat.testBit,jR,jQ]) ?_
   try simp only[ewi,go_sem,seval]
   exact⟨19-i,TA hk him,i+1,q2,rfl,g1,ho,l1,l2,S9 him⟩
  ·have hpi:n.index∈cL n:=by unfold cL;rw[bd];simp
   obtain⟨r,a,q3,rfl,j1,j2,_⟩:=h979 n.index hpi x hPt hv nl2 cl2 q q0 (by omega);obtain⟨q2,a2,l1,l2⟩:=second q3 j1 (by omega);rw[aA.avc]at a a2;simp only[oE,oF,bi,bm,bq,↓hln,g1',bd,↓hiad,hg,hy,go_sem,seval];refine aC a (Wk ?_);refine And.intro (by simp[cW,dC,R.apart,R.uses,X.tmp,Eff.apart,Nat.testBit,jR,jQ]) ?_;simp only[g1',↓hiad,hg,hy,go_sem,seval];refine aC a2 (Wk ?_);refine And.intro (by simp[cW,dC,R.apart,R.uses,X.tmp,Eff.apart,Nat.testBit,jR,jQ]) ?_
   try simp only[ewi,go_sem,seval]
   exact⟨19-i,TA hk him,i+1,q2,rfl,g1,ho,l1,l2,S9 him⟩
theorem c1008(hf:pg.fs 1008=some BC)(n:aZ)(enl ecl:Bool)(env:List Val)(h556:bV pg 556 [n.av] IsB)(h969:bV pg 969 [.sl enl (env.map Val.av) ecl] (OC (SU env/\env.length<=6)))
  (h1009:bV pg 1009 [n.av,.sl enl (env.map Val.av) ecl,.int .i64 20,.int .i64 10000] (OC (v6 n env))) :
  bV pg 1008 [n.av,.sl enl (env.map Val.av) ecl,.int .i64 20] (OC (v6 n env)):=by
 obtain⟨r1,a1,b1,rfl⟩:=h556;obtain⟨r2,a2,b2,rfl,_⟩:=h969;obtain⟨r3,a3,b3,rfl,h3⟩:=h1009;rw[aZ.avc]at a1 a3;refine bV.ofX hf ?_;unfold BC;refine Wk ?_;refine aC a1 ?_;cases b1;refine Wk ?_;exact⟨false,rfl,λh=>by cases h⟩;refine Wk ?_;refine aC a2 ?_;cases b2;refine Wk ?_;exact⟨false,rfl,λh=>by cases h⟩;refine Wk ?_;refine aC a3 (Wk ?_);exact⟨b3,rfl,h3⟩
end
end
section
def hY(ol:Nat)(o:Val)(x:List Val):List Val:=x.take ol++o::x.drop ol
theorem qX{ol:Nat}{o v:Val}{x:List Val}(h:ol<=x.length):hY ol o (x++[v])=hY ol o x++[v]:=by unfold hY;rw[List.take_append_of_le_length h,List.drop_append_of_le_length h];simp
theorem QM{ol:Nat}{o:Val}{x:List Val}{nm:List UInt8}(h:¬o.v.bs=nm):kN (hY ol o x) nm=kN x nm:=by
 have hx:kN x nm=((x.take ol).find? λv=>decide (v.v.bs=nm)).or ((x.drop ol).find? λv=>decide (v.v.bs=nm)):=by unfold kN;rw[<-List.find?_append,List.take_append_drop]
 rw[hx];unfold kN hY;rw[List.find?_append,List.find?_cons];simp[h]
def C8(o:Val)(l:Lin):Prop:=∀t∈l.ts.es,¬o.v.bs=t.v.bs
theorem DJ{ol:Nat}{o:Val}{x:List Val}:∀{ts:List aR}{n:Int},(∀t∈ts,¬o.v.bs=t.v.bs)->kC (hY ol o x) n ts=kC x n ts
 |[],_,_=>rfl
 |t::r,n,h=>by
  have hv:=QM (ol:=ol) (x:=x) (h t (by simp));cases hx:kN x t.v.bs with
  |none=>rw[mN hx,mN (hv.trans hx)]
  |some v=>rw[mM hx,mM (hv.trans hx)];split;rfl;exact DJ (λy hy=>h y (bT _ hy))
theorem rA{ol:Nat}{o:Val}{x:List Val}{l:Lin}(h:C8 o l):aO (hY ol o x) l=aO x l:=by unfold aO;split;exact DJ h;rfl
def JI(o:Val)(l:Loop):Prop:=C8 o l.lo/\∀u∈l.hi.es,C8 o u
theorem O6{ol:Nat}{o:Val}{x:List Val}:∀{ls:List Lin}{i:Nat}{h:Int},(∀u∈ls,C8 o u)->hiU (hY ol o x) i h ls=hiU x i h ls
 |[],_,_,_=>rfl
 |u::r,i,h,hf=>by unfold hiU;rw[rA (hf u (by simp)),O6 (λy hy=>hf y (bT _ hy))]
theorem LH{ol:Nat}{o:Val}{x:List Val}{l:Loop}(h:JI o l):iU l (hY ol o x)=iU l x:=by unfold iU;rw[rA h.1,O6 h.2]
def eX(f:Int->Nat×List (List Val))(hi st:Int):Nat->Int->Nat×List (List Val)
 |0,_=>(0,[])
 |n+1,i=>if i<hi then (1+(f i).1+(eX f hi st n (wr .i64 (i+st))).1,(f i).2++(eX f hi st n (wr .i64 (i+st))).2) else (0,[])
def lP:List Loop->List Val->Nat×List (List Val)
 |[],env=>(0,[env])
 |l::r,env=>eX (λi=>lP r (env++[⟨l.v,i⟩])) (iU l env).2.1 l.step 240001 (iU l env).1
def oL(f:Int->Prop)(hi st:Int):Nat->Int->Prop
 |0,_=>True
 |n+1,i=>i<hi->f i/\oL f hi st n (wr .i64 (i+st))
def qJ:List Loop->List Val->Prop
 |[],_=>True
 |l::r,env=>(iU l env).2.2=0/\oL (λi=>qJ r (env++[⟨l.v,i⟩])) (iU l env).2.1 l.step 240001 (iU l env).1
def XU(f:Ws->Ws)(B:Prop)(P:Nat×List (List Val)):Prop:=∀s:Ws,s.e=0->0<=s.t->s.t<=240000->0<=s.c->s.c<=20000 ->
 ((f s).e=0->B/\s.c+P.2.length<=20000/\s.t+P.1<=240000)/\(B->s.c+P.2.length<=20000->s.t+P.1<=240000->f s=⟨s.c+P.2.length,s.t+P.1,0,s.ps++P.2⟩)
theorem wG{f:Int->Ws->Ws}{B:Int->Prop}{P:Int->Nat×List (List Val)}{hi st:Int}(hf:∀i,XU (f i) (B i) (P i)):∀(n:Nat)(i:Int),XU (jY f hi st n i) (oL B hi st n i) (eX P hi st n i)
 |0,i,s,he,t0,t1,c0,c1=>by refine⟨λ_=>⟨trivial,by simp[eX];omega,by simp[eX];omega⟩,λ_ _ _=>?_⟩;obtain⟨c,t,e,ps⟩:=s;simp only at he;subst he;simp[jY,eX]
 |n+1,i,s,he,t0,t1,c0,c1=>by have w:wr .i64 (s.t+1)=s.t+1:=lA (by omega) (by omega);unfold jY oL eX;rw[w];by_cases hi':i<hi;rw[if_pos hi',if_pos hi'];by_cases ht:240000<s.t+1;rw[if_pos ht];refine⟨λh=>by simp at h,λ_ _ h=>?_⟩;simp only at h;omega;rw[if_neg ht];obtain⟨a,b⟩:=hf i ⟨s.c,s.t+1,s.e,s.ps⟩ he (by simp only;omega) (by simp only;omega) c0 c1;simp only at a b;by_cases e2:(f i ⟨s.c,s.t+1,s.e,s.ps⟩).e=0;rw[if_pos e2];obtain⟨b1,b2,b3⟩:=a e2;have hE:=b b1 b2 b3;rw[hE];obtain⟨c,d⟩:=wG (st:=st) hf n (wr .i64 (i+st)) ⟨s.c+(P i).2.length,s.t+1+(P i).1,0,s.ps++(P i).2⟩ rfl (by simp only;omega) (by simp only;omega) (by simp only;omega) (by simp only;omega);simp only at c d;simp only[cO];refine⟨λh=>?_,λhb h2 h3=>?_⟩;obtain⟨c1,c2,c3⟩:=c h;exact⟨λ_=>⟨b1,c1⟩,by omega,by omega⟩;have hb':=hb hi';rw[d hb'.2 (by omega) (by omega),List.append_assoc];simp only[Ws.mk.injEq,true_and,and_true];omega;rw[if_neg e2];refine⟨λh=>absurd h e2,λhb h2 h3=>?_⟩;simp only[cO]at h2 h3;exfalso;have hb':=hb hi';have hE:=b hb'.1 (by omega) (by omega);rw[hE]at e2;exact e2 rfl;rw[if_neg hi',if_neg hi'];refine⟨λ_=>⟨λh=>absurd h hi',by simp;omega,by simp;omega⟩,λ_ _ _=>?_⟩;obtain⟨c,t,e,ps⟩:=s;simp only at he;subst he;simp
theorem vB:∀(L:List Loop)(env:List Val),XU (gG L env) (qJ L env) (lP L env)
 |[],env,s,he,t0,t1,c0,c1=>by have w:wr .i64 (s.c+1)=s.c+1:=lA (by omega) (by omega);unfold gG qJ lP;rw[w];by_cases h:20000<s.c+1;rw[if_pos h];refine⟨λh=>by simp at h,λ_ h2 _=>?_⟩;simp only[List.length_cons,List.length_nil]at h2;omega;rw[if_neg h];refine⟨λ_=>⟨trivial,by simp only[List.length_cons,List.length_nil];omega,by simp only;omega⟩,λ_ _ _=>?_⟩;simp[he]
 |l::r,env,s,he,t0,t1,c0,c1=>by rw[gG,qJ,lP];by_cases hb:(iU l env).2.2=0;rw[if_pos hb];obtain⟨a,b⟩:=wG (hi:=(iU l env).2.1) (st:=l.step) (λi=>vB r (env++[⟨l.v,i⟩])) 240001 (iU l env).1 s he t0 t1 c0 c1;exact⟨λh=>⟨⟨hb,(a h).1⟩,(a h).2⟩,λh=>b h.2⟩;rw[if_neg hb];exact⟨λh=>absurd h hb,λh=>absurd h.1 hb⟩
def XZ(f:Vs->Vs)(B:Prop)(P:Nat×List (List Val)):Prop:=∀s:Vs,s.e=0->0<=s.t->s.t<=240000->B->(f s).ps.length<=20000->(f s).t<=240000->f s=⟨s.t+P.1,0,s.ps++P.2⟩
def QK(f:Vs->Vs):Prop:=∀s:Vs,s.ps.length<=(f s).ps.length
theorem mY{f:Int->Vs->Vs}{hi st:Int}(hf:∀i,QK (f i)):∀(n:Nat)(i:Int),QK (jZ f hi st n i)
 |0,i,s=>Nat.le_refl _
 |n+1,i,s=>by unfold jZ;split;split;exact Nat.le_refl _;have h1:s.ps.length<=(f i ⟨wr .i64 (s.t+1),s.e,s.ps⟩).ps.length:=hf i ⟨wr .i64 (s.t+1),s.e,s.ps⟩;split;exact Nat.le_trans h1 (mY hf n _ _);exact h1;exact Nat.le_refl _
theorem CK:∀(L:List Loop)(env:List Val),QK (nL L env)
 |[],env,s=>by unfold nL;simp
 |l::r,env,s=>by rw[nL];split;exact mY (λi=>CK r _) _ _ s;exact Nat.le_refl _
theorem wH{f:Int->Vs->Vs}{B:Int->Prop}{P:Int->Nat×List (List Val)}{hi st:Int}(hf:∀i,XZ (f i) (B i) (P i))(hm:∀i,QK (f i))(ht:∀i,LO (f i)):∀(n:Nat)(i:Int),XZ (jZ f hi st n i) (oL B hi st n i) (eX P hi st n i)
 |0,i,s,he,t0,t1,_,_,_=>by obtain⟨t,e,ps⟩:=s;simp only at he;subst he;simp[jZ,eX]
 |n+1,i,s,he,t0,t1,hB,hp,htt=>by have w:wr .i64 (s.t+1)=s.t+1:=lA (by omega) (by omega);have hpl:=Nat.le_trans (mY (hi:=hi) (st:=st) hm (n+1) i s) hp;unfold oL at hB;unfold jZ eX at *;rw[w]at *;by_cases hi':i<hi;rw[if_pos ⟨hi',hpl⟩]at hp htt ⊢;rw[if_pos hi'];by_cases h4:240000<s.t+1;rw[if_pos h4]at htt;simp only at htt;omega;rw[if_neg h4]at hp htt ⊢;have hB':=hB hi';have hfi:=hf i ⟨s.t+1,s.e,s.ps⟩ he (by simp only;omega) (by simp only;omega) hB'.1;obtain⟨u1,u2⟩:=ht i ⟨s.t+1,s.e,s.ps⟩ (by simp only;omega) (by simp only;omega);simp only at u1;by_cases e2:(f i ⟨s.t+1,s.e,s.ps⟩).e=0;rw[if_pos e2]at hp htt ⊢;have hq:=Nat.le_trans (mY (hi:=hi) (st:=st) hm n (wr .i64 (i+st)) (f i ⟨s.t+1,s.e,s.ps⟩)) hp;have hE:=hfi hq (u2 e2);simp only at hE;have ih:=wH (st:=st) hf hm ht n (wr .i64 (i+st)) (f i ⟨s.t+1,s.e,s.ps⟩) e2 (by omega) (u2 e2) hB'.2 hp htt;rw[ih,hE];simp only[List.append_assoc,Vs.mk.injEq,true_and,and_true];omega;rw[if_neg e2]at hp htt;have hE:=hfi hp htt;rw[hE]at e2;exact absurd rfl e2;rw[if_neg (λh=>hi' h.1),if_neg hi'];obtain⟨t,e,ps⟩:=s;simp only at he;subst he;simp
theorem CJ:∀(L:List Loop)(env:List Val),XZ (nL L env) (qJ L env) (lP L env)
 |[],env,s,he,t0,t1,_,_,_=>by unfold nL lP;simp
 |l::r,env,s,he,t0,t1,hB,hp,htt=>by rw[qJ]at hB;rw[nL,if_pos hB.1]at hp htt ⊢;rw[lP];exact wH (λi=>CJ r _) (λi=>CK r _) (λi=>L7 r _) 240001 (iU l env).1 s he t0 t1 hB.2 hp htt
theorem zJ{f f':Int->Nat×List (List Val)}{hi st:Int}{g:List Val->List Val}(h:∀i,f' i=((f i).1,(f i).2.map g)):∀(n:Nat)(i:Int),eX f' hi st n i=((eX f hi st n i).1,(eX f hi st n i).2.map g)
 |0,_=>rfl
 |n+1,i=>by unfold eX;split;rw[zJ h n,h i,List.map_append];rfl
theorem zK{f f':Int->Prop}{hi st:Int}(h:∀i,f i->f' i):∀(n:Nat)(i:Int),oL f hi st n i->oL f' hi st n i
 |0,_,_=>trivial
 |n+1,i,hb=>λhi'=>⟨h i (hb hi').1,zK h n _ (hb hi').2⟩
theorem IV{ol:Nat}{o:Val}:∀(L:List Loop)(env:List Val),(∀l∈L,JI o l)->ol<=env.length->lP L (hY ol o env)=((lP L env).1,(lP L env).2.map (hY ol o))
 |[],env,_,_=>rfl
 |l::r,env,hf,ho=>by rw[lP,lP,LH (hf l (by simp))];refine zJ (λi=>?_) _ _;rw[<-qX ho];exact IV r _ (λy hy=>hf y (bT _ hy)) (by simp;omega)
theorem D9{ol:Nat}{o:Val}:∀(L:List Loop)(env:List Val),(∀l∈L,JI o l)->ol<=env.length->qJ L env->qJ L (hY ol o env)
 |[],env,_,_,_=>trivial
 |l::r,env,hf,ho,hb=>by rw[qJ]at hb ⊢;rw[LH (hf l (by simp))];refine⟨hb.1,zK (λi h=>?_) _ _ hb.2⟩;rw[<-qX ho];exact D9 r _ (λy hy=>hf y (bT _ hy)) (by simp;omega) h
theorem sL{f:Int->Nat×List (List Val)}{hi st:Int}{x:List Val}:∀(n:Nat)(i:Int),x∈(eX f hi st n i).2->∃j,x∈(f j).2
 |0,_,h=>by simp[eX]at h
 |n+1,i,h=>by unfold eX at h;split at h;rcases jW.1 h with h|h;exact⟨i,h⟩;exact sL n _ h;simp at h
theorem FC:∀(L:List Loop)(env x:List Val),x∈(lP L env).2->pG L env x
 |[],env,x,h=>by simp only[lP,List.mem_singleton]at h;subst h;exact⟨by simp,by simp,λj l hl=>by simp at hl⟩
 |l::r,env,x,h=>by rw[lP]at h;obtain⟨j,hj⟩:=sL _ _ h;exact(FC r _ x hj).cons
end
section
theorem xK(x:Int):∃q:Int,wr .i64 x=x+q*18446744073709551616:=by
 simp only[wr];split;exact⟨0,by omega⟩;have e1:(2 ^ IntKind.bits .i64:Int)=18446744073709551616:=by decide
 have e2:(2 ^ (IntKind.bits .i64-1):Int)=9223372036854775808:=by decide
 simp only[IntKind.wrap,e1,e2];split;exact⟨-(x / 18446744073709551616)-1,by omega⟩;exact⟨-(x / 18446744073709551616),by omega⟩
theorem SZ{x y q:Int}(h:x=y+q*18446744073709551616):wr .i64 x=wr .i64 y:=by obtain⟨a,ha⟩:=xK x;obtain⟨b,hb⟩:=xK y;have h1:=LS x;have h2:=LS y;omega
theorem OE(a b:Int):wr .i64 (wr .i64 a+b)=wr .i64 (a+b):=by obtain⟨q,h⟩:=xK a;exact SZ (q:=q) (by omega)
theorem X8(k a:Int):wr .i64 (k*wr .i64 a)=wr .i64 (k*a):=by obtain⟨q,h⟩:=xK a;refine SZ (q:=k*q) ?_;rw[h,Int.mul_add,Int.mul_assoc]
def UB(qs:List aA)(x:List Val):Prop:=∀q∈qs,(iV q x).e=0
def sr:List aA->List Val->Int
 |[],_=>0
 |q::r,x=>(iV q x).r+sr r x
def so:List aA->List Val->Int
 |[],_=>0
 |q::r,x=>(iV q x).o+so r x
def pK(f:List Val->Int):List (List Val)->Int
 |[]=>0
 |x::r=>f x+pK f r
theorem pJ(f:List Val->Int):∀a b:List (List Val),pK f (a++b)=pK f a+pK f b
 |[],b=>by simp[pK]
 |x::r,b=>by simp only[List.cons_append,pK];rw[pJ f r b];omega
theorem yQ{f:List Val->Int}{g:List Val->List Val}:∀{l:List (List Val)},(∀x∈l,f (g x)=f x)->pK f (l.map g)=pK f l
 |[],_=>rfl
 |x::r,h=>by simp only[List.map_cons,pK];rw[h x (by simp),yQ (λy hy=>h y (bT _ hy))]
theorem XB:∀{qs:List aA}{x:List Val}{s:Nc},(tD qs x s).e=0->UB qs x
 |[],_,_,_=>λq hq=>by simp at hq
 |q::r,x,s,h=>by unfold tD at h;split at h;rename_i hq;have ih:=XB h;intro y hy;rcases List.mem_cons.1 hy with rfl|hy;exact hq;exact ih y hy;rename_i hq;exact absurd h hq
theorem P9:∀{qs:List aA}{x:List Val}{R P O:Int},UB qs x->tD qs x ⟨wr .i64 R,wr .i64 P,wr .i64 O,0⟩=⟨wr .i64 (R+sr qs x),wr .i64 P,wr .i64 (O+so qs x),0⟩
 |[],_,_,_,_,_=>by simp[tD,sr,so]
 |q::r,x,R,P,O,h=>by have hq:=h q (by simp);rw[tD,if_pos hq];simp only[OE];rw[Int.add_zero,P9 (λy hy=>h y (bT _ hy))];simp only[sr,so,Int.add_assoc]
theorem S8:∀{qs:List aA}{ps:List (List Val)}{s:Nc},(xD qs ps s).e=0->∀x∈ps,UB qs x
 |_,[],_,_=>λx hx=>by simp at hx
 |qs,y::r,s,h=>by unfold xD at h;split at h;rename_i hq;have ih:=S8 h;intro x hx;rcases List.mem_cons.1 hx with rfl|hx;exact XB hq;exact ih x hx;rename_i hq;exact absurd h hq
theorem EN:∀{qs:List aA}{ps:List (List Val)}{R P O:Int},(∀x∈ps,UB qs x)->xD qs ps ⟨wr .i64 R,wr .i64 P,wr .i64 O,0⟩=⟨wr .i64 (R+pK (sr qs) ps),wr .i64 (P+ps.length),wr .i64 (O+pK (so qs) ps),0⟩
 |_,[],_,_,_,_=>by simp[xD,pK]
 |qs,x::r,R,P,O,h=>by have hx:=P9 (R:=R) (P:=P) (O:=O) (h x (by simp));rw[xD,hx,if_pos rfl];simp only[OE];rw[EN (λy hy=>h y (bT _ hy))];simp only[pK,List.length_cons,Int.add_assoc];congr 3;omega
theorem HT{ol:Nat}{o:Val}{x:List Val}:∀{fs:List RsF}{s:Rsn},(∀f∈fs,∀w e,f (hY ol o x) w e=f x w e)->pA fs (hY ol o x) s=pA fs x s
 |[],_,_=>rfl
 |f::r,s,h=>by rw[pA,pA,h f (by simp),HT (λg hg=>h g (bT _ hg))]
theorem CT{st:Nat}{name:Str}{g:RsF}{ol:Nat}{o:Val}{x:List Val}(h:∀i w e,g (hY ol o x++[⟨name,i⟩]) w e=g (x++[⟨name,i⟩]) w e):∀(k:Nat)(i:Int)(s:Rsn),nZ st name g (hY ol o x) k i s=nZ st name g x k i s
 |0,_,_=>rfl
 |k+1,i,s=>by rw[nZ,nZ];split;rw[h,CT h k];rfl
theorem sT{vars:List Str}{s:List UInt8}(h:cJ vars s=false):∀v∈vars,¬s=v.bs:=by intro v hv he;unfold cJ at h;rw[List.any_eq_false]at h;exact h v hv (by simpa using he)
theorem C6{vars:List Str}{s:List UInt8}{v:Str}(h:cJ vars s=false)(hv:¬s=v.bs):cJ (vars++[v]) s=false:=by unfold cJ at h ⊢;rw[List.any_append,h];simp[hv]
theorem YL{ol:Nat}{o:Val}{vals:Int}:∀p:aA,∀x:List Val,ol<=x.length->cD vals p (x.map (·.v))=true->cD vals p ((hY ol o x).map (·.v))=true->cJ (x.map (·.v)) o.v.bs=false->∀w e,rnU p (hY ol o x) w e=rnU p x w e:=by
 refine aA.ind' λp ih x ho hv hv' hn w e=>?_;have hfree:∀l∈p.at_.es,C8 o l:=by intro l hl t ht he;rw[iI]at hv;simp only[aD,aY,eK]at hv;have:=(hv.1.2 l hl).2 t ht;rw[<-he,hn]at this;cases this
 have hC:atC (hY ol o x) p=atC x p:=by unfold atC;split;rename_i l r hl;rw[rA (hfree l (by rw[hl];simp))];rfl
 have hE:atE (hY ol o x) p=atE x p:=by unfold atE;split;rename_i l r hl;rw[rA (hfree l (by rw[hl];simp))];rfl
 rw[TK];unfold rnN;by_cases hw:OF w e≠0;rw[if_pos hw,if_pos hw];rw[if_neg hw,if_neg hw];by_cases bI:p.op.bs=[105,102]
 rw[if_pos bI,if_pos bI];obtain⟨k0,k1,l,hk,hat,v0,v1⟩:=tF hv bI;obtain⟨k0',k1',l',hk',_,v0',v1'⟩:=tF hv' bI;rw[hk]at hk';cases hk';rw[hk];simp only[List.map_cons,List.map_nil];rw[hC,hE,ih k0 (by rw[hk];simp) x ho v0 v0' hn,ih k1 (by rw[hk];simp) x ho v1 v1' hn];rw[if_neg bI,if_neg bI];by_cases bR:p.op.bs=[114,101,100,117,99,101]
 rw[if_pos bR,if_pos bR];obtain⟨k0,k1,l,hk,hat,v0,v1,hf⟩:=qM hv bR;obtain⟨k0',k1',l',hk',_,v0',v1',hf'⟩:=qM hv' bR;rw[hk]at hk';cases hk';rw[hk];simp only[List.map_cons,List.map_nil];have hne:¬o.v.bs=p.name.bs:=λhe=>sT hf' o.v (by unfold hY;simp) he.symm;rw[hC,hE,ih k0 (by rw[hk];simp) x ho v0 v0' hn];refine CT (λi w e=>?_) _ _ _;rw[<-qX ho];refine ih k1 (by rw[hk];simp) (x++[⟨p.name,i⟩]) (by simp;omega) (by rw[pY];exact v1) ?_ (by rw[pY];exact C6 hn hne) w e;rw[qX ho,pY];exact v1';rw[if_neg bR,if_neg bR]
 have hs:∀s,pA (p.kids.map rnU) (hY ol o x) s=pA (p.kids.map rnU) x s:=λs=>by refine HT (λf hf w e=>?_);simp only[List.mem_map]at hf;obtain⟨q,hq,rfl⟩:=hf;exact ih q hq x ho (l0 hv bR q hq) (l0 hv' bR q hq) hn w e
 rw[hs]
theorem Q6{ol:Nat}{o:Val}{x:List Val}{q:aA}(ho:ol<=x.length)(h1:MF q x)(h2:MF q (hY ol o x))(hn:cJ (x.map (·.v)) o.v.bs=false):iV q (hY ol o x)=iV q x:=by have v1:=h1.2;have v2:=h2.2;simp only[cU,aD]at v1 v2;unfold iV;rw[if_pos h1,if_pos h2,YL q x ho v1.2 v2.2 hn]
theorem oK{f:Int->Nat×List (List Val)}{T:Nat}(hT:∀j,(f j).1=T){μ : List (List Val)->Int}(h0 : μ []=0)(ha:∀a b,μ (a++b) = μ a + μ b){C:Int}(hC:∀j,μ (f j).2=C){k:Int}(hk:k<=5) :
  ∀(n:Nat)(i:Int),0<=i->i<=k->k-i<=n->((eX f k 1 n i).1:Int)=(k-i)*(1+T) /\ μ (eX f k 1 n i).2=(k-i)*C
 |0,i,i0,ik,hn=>by
  have:k-i=0:=by omega
  rw[this];simp[eX,h0]
 |n+1,i,i0,ik,hn=>by
  unfold eX;by_cases hi:i<k;rw[if_pos hi];have w:wr .i64 (i+1)=i+1:=lA (by omega) (by omega);rw[w];obtain⟨a,b⟩:=oK hT h0 ha hC hk n (i+1) (by omega) (by omega) (by omega);have e:k-i=(k-(i+1))+1:=by omega
  simp only[ha,hC,b];rw[e,Int.add_mul,Int.add_mul,Int.one_mul,Int.one_mul];rw[<-a,hT];refine⟨by omega,by omega⟩;rw[if_neg hi];have:k-i=0:=by omega
  rw[this];simp[h0]
theorem zL{f:Int->Prop}{hi st:Int}(h:∀i,f i):∀(n:Nat)(i:Int),oL f hi st n i
 |0,_=>trivial
 |n+1,i=>λ_=>⟨h i,zL h n _⟩
theorem zS{o:Val}:∀{L:List Loop}{vars:List Str},d6 L vars=true->cJ vars o.v.bs=false->(∀l∈L,¬o.v.bs=l.v.bs)->∀l∈L,JI o l
 |[],_,_,_,_=>λl hl=>by simp at hl
 |x::r,vars,h,hv,hf=>by
  simp only[d6,eG,aD]at h;intro l hl;rcases List.mem_cons.1 hl with rfl|hl;obtain⟨⟨⟨_,_⟩,h1,h2⟩,_⟩:=h;have key:∀ls:List Lin,aY ls vars=true->∀u∈ls,C8 o u:=by intro ls hls u hu t ht he;simp only[aY,eK,aD]at hls;have:=(hls u hu).2 t ht;rw[<-he,hv]at this;cases this
  exact⟨key _ h2 _ (by simp),key _ h1⟩;exact zS h.2 (C6 hv (hf x (by simp))) (λy hy=>hf y (bT _ hy)) l hl
theorem RL{vars:List Str}{s:List UInt8}{v:Str}(h:cJ vars s=true):cJ (vars++[v]) s=true:=by unfold cJ at h ⊢;rw[List.any_append,h,Bool.true_or]
theorem wN{s:List UInt8}:∀{L:List Loop}{vars:List Str},d6 L vars=true->cJ vars s=true->∀l∈L,¬s=l.v.bs
 |[],_,_,_=>λl hl=>by simp at hl
 |x::r,vars,h,hv=>by simp only[d6,eG,aD,fY]at h;intro l hl he;rcases List.mem_cons.1 hl with rfl|hl;have:=h.1.1.1.2;rw[<-he,hv]at this;cases this;exact wN h.2 (RL hv) l hl he
theorem JC(x:List Val)(o:Val):hY x.length o x=x++[o]:=by unfold hY;simp
end
end Go.Tev
