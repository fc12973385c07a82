import Derived.Test.YtilkdbbkkcnocaaGreatDoorSBO
import Derived.Test.YtilkdbbkkcnocaaGreatDoorSAW
import Derived.Test.YtilkdbbkkcnocaaGreatDoorSBC
import Derived.Test.YtilkdbbkkcnocaaGreatDoorSBL
import Derived.Test.YtilkdbbkkcnocaaGreatDoorSBK
import Derived.Test.YtilkdbbkkcnocaaGreatDoorSAR
set_option linter.all false
namespace Go.Tev
section
theorem MR{ol:Nat}{o:Val}{x:List Val}(h:(x.map λv=>v.v.bs).Nodup)(ho:∀v∈x,¬o.v.bs=v.v.bs):((hY ol o x).map λv=>v.v.bs).Nodup:=by
 have hp:(hY ol o x).Perm (o::x):=by unfold hY;refine List.perm_middle.trans ?_;rw[List.take_append_drop]
 rw[(hp.map λv=>v.v.bs).nodup_iff,List.map_cons,List.nodup_cons];refine⟨λhm=>?_,h⟩;simp only[List.mem_map]at hm;obtain⟨v,hv,he⟩:=hm;exact ho v hv he.symm
theorem ZD{vars:List Str}{s:List UInt8}(h:∀v∈vars,¬s=v.bs):cJ vars s=false:=by unfold cJ;rw[List.any_eq_false];intro v hv he;exact h v hv (by simpa using he)
theorem aFq{n m:aZ}{env:List Val}{lo:Loop}{k:Int}(k0:0<=k)(k5:k<=5)(hl:m.loops.es=lo::n.loops.es)(hlo:∀env,iU lo env=(0,k,0))(hst:lo.step=1)(hb:m.body=n.body)(hi:m.index=n.index)(hd:m.dyn=n.dyn)
  (hB:v6 n env) (hA:(kO n env).e=0) (hE:(kO m env).e≠1) :
  kO m env=⟨wr .i64 (k*(kO n env).r),wr .i64 (k*(kO n env).p),wr .i64 (k*(kO n env).o),0⟩:=by
 have hq:cL m=cL n:=by unfold cL;rw[hb,hi,hd]
 have hc:lR env/\eM n (env.map (·.v)) 1000=true:=by apply Classical.byContradiction;intro hc;unfold kO at hA;rw[if_neg hc]at hA;simp at hA
 have hcm:lR env/\eM m (env.map (·.v)) 1000=true:=by apply Classical.byContradiction;intro hc;unfold kO at hE;rw[if_neg hc]at hE;exact hE rfl
 have eA:kO n env=(if (gG n.loops.es env ⟨0,0,0,[]⟩).e=0 then xD (cL n) (gG n.loops.es env ⟨0,0,0,[]⟩).ps ⟨0,0,0,0⟩ else ⟨0,0,0,(gG n.loops.es env ⟨0,0,0,[]⟩).e⟩):=if_pos hc;have eB:kO m env=(if (gG m.loops.es env ⟨0,0,0,[]⟩).e=0 then xD (cL m) (gG m.loops.es env ⟨0,0,0,[]⟩).ps ⟨0,0,0,0⟩ else ⟨0,0,0,(gG m.loops.es env ⟨0,0,0,[]⟩).e⟩):=if_pos hcm;rw[eA]at hA;have hWe:(gG n.loops.es env ⟨0,0,0,[]⟩).e=0:=by apply Classical.byContradiction;intro h;rw[if_neg h]at hA;exact h hA
 rw[if_pos hWe]at hA eA;obtain⟨w1,w2⟩:=vB n.loops.es env ⟨0,0,0,[]⟩ rfl (Int.le_refl _) (by decide) (Int.le_refl _) (by decide);obtain⟨bB,bc,bt⟩:=w1 hWe;have hWq:=w2 bB bc bt;simp only[Int.zero_add,List.nil_append]at hWq bc bt;rw[hWq]at hA eA;simp only at hA eA;obtain⟨ht,hp⟩:=hB hc;have hVq:=CJ n.loops.es env ⟨0,0,[]⟩ rfl (Int.le_refl _) (by decide) bB (by omega) (by omega);simp only[Int.zero_add,List.nil_append]at hVq;rw[hVq]at ht hp;simp only at ht hp;obtain⟨T,hT⟩:∃T,T=(lP n.loops.es env).1:=⟨_,rfl⟩
 obtain⟨Q,hQ⟩:∃Q,Q=(lP n.loops.es env).2:=⟨_,rfl⟩
 rw[<-hT]at ht;rw[<-hQ]at hp hA eA;have hok:=S8 hA;have z0:wr .i64 0=0:=rfl;have sA:=EN (qs:=cL n) (ps:=Q) (R:=0) (P:=0) (O:=0) hok;rw[z0]at sA;simp only[Int.zero_add]at sA;rw[sA]at eA;have hn1:=hc.2;have hm1:=hcm.2;unfold eM at hn1 hm1;simp only[aD]at hn1 hm1;have ln:d6 n.loops.es (env.map (·.v))=true:=hn1.1.1.1.1.1.1.1;have lm:d6 m.loops.es (env.map (·.v))=true:=hm1.1.1.1.1.1.1.1;rw[hl]at lm;simp only[d6,aD]at lm;have fr0:cJ (env.map (·.v)) lo.v.bs=false:=by have:=lm.1;simp only[eG,aD,fY]at this;exact this.1.1.2
 have fr1:∀l∈n.loops.es,¬lo.v.bs=l.v.bs:=wN lm.2 (by unfold cJ;simp);have hfree:∀j:Int,∀l∈n.loops.es,JI ⟨lo.v,j⟩ l:=λj=>zS (o:=⟨lo.v,j⟩) ln fr0 fr1
 have hins:∀j:Int,lP n.loops.es (env++[⟨lo.v,j⟩])=(T,Q.map (hY env.length ⟨lo.v,j⟩)):=λj=>by rw[<-JC,IV n.loops.es env (hfree j) (Nat.le_refl _),hT,hQ]
 have hP:lP m.loops.es env=eX (λj=>lP n.loops.es (env++[⟨lo.v,j⟩])) k 1 240001 0:=by rw[hl,lP,hlo,hst]
 have hBm:qJ m.loops.es env:=by rw[hl,qJ,hlo];refine⟨rfl,zL (λj=>?_) _ _⟩;rw[<-JC];exact D9 n.loops.es env (hfree j) (Nat.le_refl _) bB
 have hTj:∀j:Int,(lP n.loops.es (env++[⟨lo.v,j⟩])).1=T:=λj=>by rw[hins]
 have hlen:=oK hTj (μ:=λl=>(l.length:Int)) rfl (λa b=>by simp) (C:=Q.length) (λj=>by rw[hins];simp) k5 240001 0 (Int.le_refl _) k0 (by omega);rw[<-hP,Int.sub_zero]at hlen;obtain⟨v1,v2⟩:=vB m.loops.es env ⟨0,0,0,[]⟩ rfl (Int.le_refl _) (by decide) (Int.le_refl _) (by decide);have kq:k*Q.length<=100:=by have:k*(Q.length:Int)<=5*(Q.length:Int):=Int.mul_le_mul_of_nonneg_right k5 (by omega);omega
 have kt:k*(1+(T:Int))<=100005:=by have:k*(1+(T:Int))<=5*(1+(T:Int)):=Int.mul_le_mul_of_nonneg_right k5 (by omega);omega
 have hWm:=v2 hBm (by simp only;omega) (by simp only;omega);simp only[Int.zero_add,List.nil_append]at hWm;rw[hWm]at eB;simp only[if_true]at eB;have hx:∀j:Int,∀x∈Q,∀q∈cL n,iV q (hY env.length ⟨lo.v,j⟩ x)=iV q x:=by
  intro j x hx q hqm;have hpt:pG n.loops.es env x:=FC _ _ _ (by rw[<-hQ];exact hx);have hnx:x.map (·.v)=env.map (·.v)++n.loops.es.map (·.v):=hpt.names;have hxl:env.length<=x.length:=by rw[hpt.len];omega
  have hpm:pG m.loops.es env (hY env.length ⟨lo.v,j⟩ x):=by rw[hl];refine pG.cons (i:=j) (FC _ _ _ ?_);rw[hins];exact List.mem_map_of_mem hx
  have h1:MF q x:=by apply Classical.byContradiction;intro hn;have:=hok x hx q hqm;unfold iV at this;rw[if_neg hn]at this;simp at this
  have hfresh:cJ (x.map (·.v)) lo.v.bs=false:=by rw[hnx];refine ZD (λv hv=>?_);rcases jW.1 hv with hv|hv;exact sT fr0 v hv;simp only[List.mem_map]at hv;obtain⟨l,hl',rfl⟩:=hv;exact fr1 l hl'
  have hall:kM m (env.map (·.v))=(hY env.length ⟨lo.v,j⟩ x).map (·.v):=by rw[hpm.names];rfl
  have h2:MF q (hY env.length ⟨lo.v,j⟩ x):=by refine⟨MR h1.1 (λv hv=>sT hfresh v.v (List.mem_map_of_mem hv)),?_⟩;rw[<-hall];rw[<-hq]at hqm;have hbody:cU m.body (kM m (env.map (·.v))) 1000=true:=hm1.1.2;have hdyn:=hm1.2;unfold cL at hqm;split at hqm;rename_i hdy;rw[if_pos hdy]at hdyn;simp only[aD]at hdyn;simp only[List.mem_cons,List.not_mem_nil,or_false]at hqm;rcases hqm with rfl|rfl;exact hdyn.1;exact hbody;simp only[List.mem_cons,List.not_mem_nil,or_false]at hqm;subst hqm;exact hbody
  exact Q6 hxl h1 h2 hfresh
 have hsr:∀j:Int,∀x∈Q,sr (cL n) (hY env.length ⟨lo.v,j⟩ x)=sr (cL n) x:=by
  intro j x hxq;have:=hx j x hxq;generalize cL n=qs at this;clear hx
  induction qs with
  |nil=>rfl
  |cons q r ih=>simp only[sr];rw[this q (by simp),ih (λy hy=>this y (bT _ hy))]
 have hso:∀j:Int,∀x∈Q,so (cL n) (hY env.length ⟨lo.v,j⟩ x)=so (cL n) x:=by
  intro j x hxq;have:=hx j x hxq;generalize cL n=qs at this;clear hx
  induction qs with
  |nil=>rfl
  |cons q r ih=>simp only[so];rw[this q (by simp),ih (λy hy=>this y (bT _ hy))]
 have hokm:∀x∈(lP m.loops.es env).2,UB (cL n) x:=by intro x' hx';rw[hP]at hx';obtain⟨j,hj⟩:=sL _ _ hx';rw[hins]at hj;simp only[List.mem_map]at hj;obtain⟨x,hxq,rfl⟩:=hj;intro q hqm;rw[hx j x hxq q hqm];exact hok x hxq q hqm
 have tr:=oK hTj (μ:=pK (sr (cL n))) rfl (pJ _) (C:=pK (sr (cL n)) Q) (λj=>by rw[hins];exact yQ (hsr j)) k5 240001 0 (Int.le_refl _) k0 (by omega);have to:=oK hTj (μ:=pK (so (cL n))) rfl (pJ _) (C:=pK (so (cL n)) Q) (λj=>by rw[hins];exact yQ (hso j)) k5 240001 0 (Int.le_refl _) k0 (by omega);rw[<-hP,Int.sub_zero]at tr to;have sB:=EN (qs:=cL n) (ps:=(lP m.loops.es env).2) (R:=0) (P:=0) (O:=0) hokm;rw[z0]at sB;simp only[Int.zero_add]at sB;rw[hq,sB,tr.2,to.2,hlen.2]at eB;rw[eB,eA];simp only[X8]
end
section
def aFs:Str:=⟨[111,117,116,101,114],by simp[big]⟩
def qV(k:Int):Loop:=⟨aFs,⟨0,MG aR⟩,Y1 ⟨k,MG aR⟩,1⟩
theorem I8{k:Int}(k0:0<=k)(k5:k<=5)(env:List Val):iU (qV k) env=(0,k,0):=by
 have e0:aO env (⟨0,MG aR⟩:Lin)=(0,0):=by unfold aO;rw[if_pos (by rfl)];rfl
 have hk:eT (⟨k,MG aR⟩:Lin)=true:=by have h1:decide (-1000000<=k)=true:=decide_eq_true (by omega);have h2:decide (k<=1000000)=true:=decide_eq_true (by omega);simp[eT,MG,lN,kD,h1,h2]
 have e1:aO env (⟨k,MG aR⟩:Lin)=(k,0):=by unfold aO;rw[if_pos hk];rfl
 unfold iU qV Y1;simp only[e0,hiU,e1];simp
def tM(n:aZ)(k:Int)(c:Bool)(h:n.loops.es.length<=4):aZ:=⟨⟨false,qV k::n.loops.es,c,by simp only[List.length_cons,big];omega⟩,n.value,n.at_,n.dyn,n.index,n.check,n.body⟩
def HF(n:aZ)(enl ecl:Bool)(env:List Val)(z:AV):AV:=.agg (n.cells++[.sl enl (env.map Val.av) ecl,z])
theorem UI{h:Hp}{d:Nat}{v v' e:AV}{rest:List AV}{keys:List Nat}(hv:Tev.snap (d+2) h v=some (v',keys))(hr:treeL rest=true)(he:e.tree=true):∃ks,mapS (Tev.snap (d+3) h) [.agg (v::rest),e]=some ([.agg (v' :: rest),e],ks):=by
 have h1:mapS (Tev.snap (d+2) h) rest=some (rest,[]):=dA (d+1) h hr;have h2:Tev.snap (d+3) h e=some (e,[]):=by rw[fR,if_pos he]
 by_cases ht:v.tree=true
 ·have hv2:v'=v:=by rw[fR,if_pos ht]at hv;simp at hv;exact hv.1.symm
  subst hv2;refine⟨[],?_⟩;have:Tev.snap (d+3) h (.agg (v' :: rest))=some (.agg (v' :: rest),[]):=by rw[fR,if_pos (by simp only[AV.tree,treeL,ht,hr,Bool.and_self])]
  rw[bG,this,bG,h2,eN]
  try rfl
 ·refine⟨keys++[]++([]++[]),?_⟩;have:Tev.snap (d+3) h (.agg (v::rest))=some (.agg (v' :: rest),keys++[]):=by rw[fR,if_neg (by simp only[AV.tree,treeL,aD];exact λh=>ht h.1)];show (mapS (Tev.snap (d+2) h) (v::rest)).map _=_;rw[bG,hv,h1];rfl
  rw[bG,this,bG,h2,eN]
  try rfl
section
variable{pg:Pg}{kb:Nat}
theorem aBQ{s esz bytes:Nat}{ag:Bool}{h:Hp}{es xs:List AV}{b c:Bool}{Q:AV->Eff->Prop}{t:Tok Q}(hes:∀x∈es,El esz ag x)(hxs:∀x∈xs,El esz ag x)(hne:es≠[])(hl:es.length+xs.length<=1073741824)(hb:bytes<=65536)
  (q:∀v rd pa cl' H',H'=Eff.app h (.pat rd pa)->v.fits 1 false=true->bC [v]=true->v.cells=[v]->(∀h',h'.get (kb+s)=H'.get (kb+s)->∀d,∃keys,Tev.snap (d+2) h' v=some (.sl false (es++xs) cl',keys))->(∀k,k≠kb+s->H'.get k=h.get k)->Q v (.pat rd pa)) :
  XO pg kb (.app esz ag bytes) s h [.sl false es true,.sl b xs c] Q t:=by
 rw[qK];obtain⟨ds,d1,d2,d3,d4⟩:=bU hxs;obtain⟨cs,c1,c2,c3,c4⟩:=bU hes;simp only[o7,bM,d1,Option.map_some,lG];by_cases hx:xs=[]
 subst hx;simp only[List.length_nil,if_true];refine q _ _ _ true _ rfl rfl rfl rfl (λh' _ d=>⟨[],?_⟩) (λ_ _=>rfl);rw[fR,if_pos,List.append_nil];simp only[AV.tree];clear d1 d2 d3 d4 hne hl c1 c2 c4 q
 induction es with
 |nil=>rfl
 |cons x r ih=>simp only[treeL,aD];exact⟨(hes x (by simp)).tree,ih (λy hy=>hes y (bT _ hy))⟩
 have hn':xs.length≠0:=by simpa using hx
 rw[if_neg hn'];simp only[Bool.or_true,Bool.true_and,hl,hb,decide_true,Bool.and_self,if_true,c1];refine q _ _ _ false _ rfl rfl rfl rfl (λh' hg d=>?_) (λk hk=>?_);have hE:(Eff.app h (.pat [kb+s] [⟨kb+s,h.next (kb+s),.blk (cs++ds) esz ag false false⟩])).get (kb+s)=some (h.next (kb+s),.blk (cs++ds) esz ag false false):=by show (h.put (kb+s) (h.next (kb+s)) _).get (kb+s)=_;rw[aB,if_pos rfl]
 rw[hE]at hg;have ho:Own h' (kb+s) esz ag (.rf (kb+s) (h.next (kb+s)) 0 (es.length+xs.length) (es.length+xs.length)) (es++xs):=.inr ⟨h.next (kb+s),cs++ds,by simp,hg,eV c1 d1⟩;have hne2:es++xs≠[]:=by simp[hne]
 obtain⟨keys,hk,_⟩:=ho.snapD (λx hx=>(jW.1 hx).elim (hes x) (hxs x)) (λh=>absurd h hne2) d;refine⟨keys,?_⟩;rw[hk,slE,if_neg hne2];show (h.put (kb+s) (h.next (kb+s)) _).get k=_;rw[aB,if_neg (Ne.symm hk)]
end
section
variable{pg:Pg}
set_option maxRecDepth 100000 in
set_option maxHeartbeats 2000000 in
theorem c1007(hf:pg.fs 1007=some BD)(h968:Ret pg 968 [] (.bool true))(n:aZ)(enl ecl:Bool)(env:List Val)(z:AV)(hz:z.fits 1 false=true)(hzt:z.tree=true)(u:Int)(u0:0<=u)(u1:u<=255)
  (h1008:bV pg 1008 [n.av,.sl enl (env.map Val.av) ecl,.int .i64 20] (OC (v6 n env)))
  (h985:Ret pg 985 [n.av,.sl enl (env.map Val.av) ecl] (kO n env).av)
  (h985m:∀(k:Int)(c:Bool)(h:n.loops.es.length<=4),Ret pg 985 [(tM n k c h).av,.sl enl (env.map Val.av) ecl] (kO (tM n k c h) env).av) :
  Ret pg 1007 [HF n enl ecl env z,.int .u8 u] (.bool true):=by
 obtain⟨r8,a1008,b8,rfl,hB⟩:=h1008;refine Ret.ofX hf ?_;unfold BD;have hcA:HF n enl ecl env z = .agg [.sl n.loops.nl (n.loops.es.map Loop.av) n.loops.cl,.int .i64 n.value,.sl n.at_.nl (n.at_.es.map Lin.av) n.at_.cl,.bool n.dyn,.str n.index.op.bs,.int .i64 n.index.num,.int .i64 n.index.value,.str n.index.name.bs,.sl n.index.at_.nl (n.index.at_.es.map Lin.av) n.index.at_.cl,.bool n.index.dyn,.int .i64 n.index.check,.sl n.index.fn.nl (n.index.fn.es.map aE.av) n.index.fn.cl,.sl n.index.knl (n.index.kids.map aA.av) n.index.kcl,.int .i64 n.check,.str n.body.op.bs,.int .i64 n.body.num,.int .i64 n.body.value,.str n.body.name.bs,.sl n.body.at_.nl (n.body.at_.es.map Lin.av) n.body.at_.cl,.bool n.body.dyn,.int .i64 n.body.check,.sl n.body.fn.nl (n.body.fn.es.map aE.av) n.body.fn.cl,.sl n.body.knl (n.body.kids.map aA.av) n.body.kcl,.sl enl (env.map Val.av) ecl,z]:=rfl;rw[hcA];rw[aZ.avc]at a1008;have h985a:=h985;rw[aZ.avc]at h985a;refine Wk ?_;refine aC h968 (Wk ?_);refine aC a1008 ?_;cases b8;simp only[go_sem,seval];have hBQ:=hB rfl;cases b4:decide (4<(n.loops.es.length:Int))
 case true=>simp only[b4,go_sem,seval]
 have h4:n.loops.es.length<=4:=by have:=aN b4;omega
 obtain⟨k,hk⟩:∃k:Int,k=Int.tmod u 6:=⟨_,rfl⟩
 have k0:0<=k:=by rw[hk];exact Int.tmod_nonneg _ u0
 have k5:k<=5:=by have:Int.tmod u 6<6:=Int.tmod_lt_of_pos u (by decide);omega
 have wu:wr .i64 u=u:=lA (by omega) (by omega);simp only[b4,wu,<-hk,go_sem,seval];refine aBQ (kb:=0) (s:=21) (es:=[(qV k).av]) (xs:=n.loops.es.map Loop.av) (by intro y hy;simp at hy;subst hy;exact El.loop _) (El.loops _) (by simp) (by simp only[cP,List.length_cons,List.length_nil];omega) (by decide) ?_;intro v rd pa cl' H hH fv1 fv2 fv3 hsn hkk;have g9:H.get 9=some (0,.blk (aZ.av n).cells 23 true true false):=(hkk 9 (by decide)).trans (by rw[aZ.cells_av];rfl);have g17:H.get 17=some (0,.blk (aZ.av n).cells 23 true true false):=(hkk 17 (by decide)).trans (by rw[aZ.cells_av];rfl);have g1:∃o,H.get 1=some (0,.blk (n.cells++[.sl enl (env.map Val.av) ecl,z]) 25 true true o):=⟨false,(hkk 1 (by decide)).trans rfl⟩
 obtain⟨og,g1⟩:=g1;have g1':H.get 1=some (0,.blk [.sl n.loops.nl (n.loops.es.map Loop.av) n.loops.cl,.int .i64 n.value,.sl n.at_.nl (n.at_.es.map Lin.av) n.at_.cl,.bool n.dyn,.str n.index.op.bs,.int .i64 n.index.num,.int .i64 n.index.value,.str n.index.name.bs,.sl n.index.at_.nl (n.index.at_.es.map Lin.av) n.index.at_.cl,.bool n.index.dyn,.int .i64 n.index.check,.sl n.index.fn.nl (n.index.fn.es.map aE.av) n.index.fn.cl,.sl n.index.knl (n.index.kids.map aA.av) n.index.kcl,.int .i64 n.check,.str n.body.op.bs,.int .i64 n.body.num,.int .i64 n.body.value,.str n.body.name.bs,.sl n.body.at_.nl (n.body.at_.es.map Lin.av) n.body.at_.cl,.bool n.body.dyn,.int .i64 n.body.check,.sl n.body.fn.nl (n.body.fn.es.map aE.av) n.body.fn.cl,.sl n.body.knl (n.body.kids.map aA.av) n.body.kcl,.sl enl (env.map Val.av) ecl,z] 25 true true og):=g1;rw[aZ.cells_av]at g9 g17;rw[<-hH];clear hH g1;have hm:=h985m k cl' h4;obtain⟨⟨ar,ap,ao,ae⟩,hA⟩:∃A,kO n env=A:=⟨_,rfl⟩
 obtain⟨⟨br,bp,bo,be⟩,hBm⟩:∃B,kO (tM n k cl' h4) env=B:=⟨_,rfl⟩
 rw[hA]at h985a;rw[hBm]at hm;rw[aZ.avc]at hm;simp only[g17,fv1,fv2,fv3,g9,g1',go_sem,seval];refine aC h985a ?_;simp only[Nc.av,xH,g1',go_sem,seval];have hE:∀(H2:Hp) ks fr,Eff.app H2 (.pat ks ((if (Nc.mk br bp bo be).av.flat=true then [] else fr)++[]))=H2:=λ_ _ _=>rfl;obtain⟨H2,hH2⟩:∃H2:Hp,H2=((H.put 17 0 (.blk [v,.int .i64 n.value,.sl n.at_.nl (n.at_.es.map Lin.av) n.at_.cl,.bool n.dyn,.str n.index.op.bs,.int .i64 n.index.num,.int .i64 n.index.value,.str n.index.name.bs,.sl n.index.at_.nl (n.index.at_.es.map Lin.av) n.index.at_.cl,.bool n.index.dyn,.int .i64 n.index.check,.sl n.index.fn.nl (n.index.fn.es.map aE.av) n.index.fn.cl,.sl n.index.knl (n.index.kids.map aA.av) n.index.kcl,.int .i64 n.check,.str n.body.op.bs,.int .i64 n.body.num,.int .i64 n.body.value,.str n.body.name.bs,.sl n.body.at_.nl (n.body.at_.es.map Lin.av) n.body.at_.cl,.bool n.body.dyn,.int .i64 n.body.check,.sl n.body.fn.nl (n.body.fn.es.map aE.av) n.body.fn.cl,.sl n.body.knl (n.body.kids.map aA.av) n.body.kcl] 23 true true false)).put 29 (H.next 29) (.blk [.int .i64 0,.int .i64 0,.int .i64 0,.int .i64 0] 4 true true false)).put 29 (H.next 29) (.blk [.int .i64 ar,.int .i64 ap,.int .i64 ao,.int .i64 0] 4 true true false):=⟨_,rfl⟩
 rw[<-hH2];have y29:H2.get 29=some (H.next 29,.blk [.int .i64 ar,.int .i64 ap,.int .i64 ao,.int .i64 0] 4 true true false):=by rw[hH2,aB,if_pos rfl]
 obtain⟨keys,hk2⟩:=hsn H2 (by rw[hH2,aB,if_neg (by decide),aB,if_neg (by decide),aB,if_neg (by decide)]) 61;clear hH2;obtain⟨ks,hms⟩:=UI (rest:=[.int .i64 n.value,.sl n.at_.nl (n.at_.es.map Lin.av) n.at_.cl,.bool n.dyn,.str n.index.op.bs,.int .i64 n.index.num,.int .i64 n.index.value,.str n.index.name.bs,.sl n.index.at_.nl (n.index.at_.es.map Lin.av) n.index.at_.cl,.bool n.index.dyn,.int .i64 n.index.check,.sl n.index.fn.nl (n.index.fn.es.map aE.av) n.index.fn.cl,.sl n.index.knl (n.index.kids.map aA.av) n.index.kcl,.int .i64 n.check,.str n.body.op.bs,.int .i64 n.body.num,.int .i64 n.body.value,.str n.body.name.bs,.sl n.body.at_.nl (n.body.at_.es.map Lin.av) n.body.at_.cl,.bool n.body.dyn,.int .i64 n.body.check,.sl n.body.fn.nl (n.body.fn.es.map aE.av) n.body.fn.cl,.sl n.body.knl (n.body.kids.map aA.av) n.body.kcl]) (e:=.sl enl (env.map Val.av) ecl) hk2 (by simp only[go_sem,seval]) (by simp only[go_sem,seval]);refine cX hm hms (v:=(Nc.mk br bp bo be).av) (pa:=[]) rfl ?_;rw[hE];simp only[Nc.av,xH,y29,go_sem,seval];cases ea:decide (ae=0);simp only[ea,go_sem,seval];cases eb:decide (be=1)
 rotate_left 1
 simp only[ea,eb,go_sem,seval];have hae:=aG ea;have hbe:=aN eb;have key:=aFq (n:=n) (m:=tM n k cl' h4) (env:=env) (lo:=qV k) k0 k5 rfl (I8 k0 k5) rfl rfl rfl rfl hBQ (by rw[hA];exact hae) (by rw[hBm];exact hbe);rw[hA,hBm]at key;simp only[Nc.mk.injEq]at key;obtain⟨rfl,rfl,rfl,rfl⟩:=key;have y37:∀o1 o2,((H2.put 37 (H2.next 37) o1).put 37 (H2.next 37) o2).get 29=H2.get 29:=λo1 o2=>by rw[aB,if_neg (by decide),aB,if_neg (by decide)]
 simp only[ea,y29,y37,go_sem,seval]
end
end
section
structure CodeCq(pg:Pg):Prop where
 nv:vZ pg
 f32:pg.fs 32=some WE
 f34:pg.fs 34=some WD
 f52:pg.fs 52=some WA
 f53:pg.fs 53=some NG
 f357:pg.fs 357=some DX
 f556:pg.fs 556=some KM
 f563:pg.fs 563=some KH
 f568:pg.fs 568=some KG
 f569:pg.fs 569=some KF
 f584:pg.fs 584=some KA
 f585:pg.fs 585=some DW
 f602:pg.fs 602=some A1
 f603:pg.fs 603=some uK
 f604:pg.fs 604=some J7
 f969:pg.fs 969=some J6
 f972:pg.fs 972=some J5
 f978:pg.fs 978=some J4
 f979:pg.fs 979=some J3
 f980:pg.fs 980=some DS
 f981:pg.fs 981=some wZ
 f982:pg.fs 982=some J2
 f985:pg.fs 985=some J1
 f986:pg.fs 986=some DR
 f991:pg.fs 991=some wY
 f992:pg.fs 992=some wX
 f993:pg.fs 993=some uJ
 f994:pg.fs 994=some AY
 f995:pg.fs 995=some DQ
 f996:pg.fs 996=some AX
 f997:pg.fs 997=some AW
 f1007:pg.fs 1007=some BD
 f1008:pg.fs 1008=some BC
 f1009:pg.fs 1009=some BB
 f1010:pg.fs 1010=some s7
 f1011:pg.fs 1011=some BA
section
variable{pg:Pg}
theorem IQ{n:aZ}{q:aA}(hq:q∈cL n):q=n.body\/q=n.index/\n.dyn=true:=by unfold cL at hq;split at hq;rename_i h;simp only[List.mem_cons,List.not_mem_nil,or_false]at hq;rcases hq with h1|h1;exact .inr ⟨h1,h⟩;exact .inl h1;simp only[List.mem_cons,List.not_mem_nil,or_false]at hq;exact .inl hq
theorem q51(C:CodeCq pg)(A:Ora pg):∀l:Lin,Ret pg 51 [l.av] (.bool (eT l)):=c51 C.nv.f51 C.nv.f89 (c57 A C.nv.f57 C.nv.f91 C.nv.f126)
theorem q32(C:CodeCq pg)(A:Ora pg):∀(l:Lin)(nl cl:Bool)(ds:List Val),ds.length<=big->Ret pg 32 [l.av,.sl nl (ds.map Val.av) cl] (.tup [.int .i64 (aO ds l).1,.int .i64 (aO ds l).2]):=aRD C.f32 (q51 C A) C.f52 C.f53
theorem q54(C:CodeCq pg):∀l:Lin,Ret pg 54 [l.av] (.bool (eT l)):=c54 C.nv.f54 (λs=>c77 C.nv.f77 C.nv.f114 C.nv.f115 s.bs s.ok) C.nv.f90
theorem q34(C:CodeCq pg):∀(l:Lin)(nl cl:Bool)(ds:List Val),ds.length<=big->Ret pg 34 [l.av,.sl nl (ds.map Val.av) cl] (.tup [.int .i64 (aO ds l).1,.int .i64 (aO ds l).2]):=aRC C.f34 (q54 C)
theorem OV(C:CodeCq pg)(A:Ora pg)(hx:AscX pg)(n:aZ)(hb:n.body.ok)(hi:n.index.ok)(enl ecl:Bool)(env:List Val)(henl:enl=true->env=[])(hsz:env.length+n.loops.es.length+n.body.sz+n.index.sz<=big) :
  Ret pg 985 [n.av,.sl enl (env.map Val.av) ecl] (kO n env).av:=by
 have hns:nT n (env.map (·.v)):=⟨hb,hi,by simp;omega,by simp;omega⟩
 have h557:∀(n:aZ)(nl cl:Bool)(vars:List Str),(nl=true->vars=[])->nT n vars->∀values:Int,Ret pg 557 [n.av,.sl nl (vars.map Str.av) cl,.int .i64 values] (.bool (eM n vars values)):=
  λn nl cl vars hnl hs values=>c557 C.nv.f557 (λnl cl l nl' cl' vars hnl' hb=>c570 C.nv.f570 C.nv.f107 (c57 A C.nv.f57 C.nv.f91 C.nv.f126) C.nv.f98 C.nv.f138 (W9 C.nv A) nl cl l nl' cl' vars hnl' hb) (W9 C.nv A) (XA C.nv A) (aHv C.nv) n nl cl vars hnl hs values
 have h563:=c563 C.f563 C.f585 C.f602 C.f603 (c604 C.f604 (q32 C A)) (c584 C.f584 C.nv.f98 C.nv.f138) h557 n enl ecl env hns (by omega);refine c985 C.f985 C.f357 C.f986 n enl ecl env henl (by omega) h563 (λq hq x hxl nl cl=>?_);have hqs:q.ok/\x.length+q.sz<=big:=by
  rcases IQ hq with rfl|⟨rfl,_⟩
  exact⟨hb,by rw[hxl];omega⟩;exact⟨hi,by rw[hxl];omega⟩
 exact aLq C.f972 hx C.nv.f98 C.nv.f138 C.f980 (XA C.nv A) (c981 C.f981 C.f992 C.nv.f177) q hqs.1 nl cl x hqs.2
  (λhv=>aLp C.f982 hx C.f993 C.f994 C.f995 C.f996 C.f997 (q32 C A) 1000 q hqs.1 x hqs.2 hv)
theorem aBC(C:CodeCq pg)(A:Ora pg)(hx:AscX pg)(h968:Ret pg 968 [] (.bool true))(n:aZ)(hb:n.body.ok)(hi:n.index.ok)(env:Sl Val)(henl:env.nl=true->env.es=[])(arrs:Sl Arr)(hsz:env.es.length+n.loops.es.length+1+n.body.sz+n.index.sz<=big)(u:Int)(u0:0<=u)(u1:u<=255) :
  Ret pg 1007 [HF n env.nl env.cl env.es (arrs.av Arr.av),.int .u8 u] (.bool true):=by
 have hns:nT n (env.es.map (·.v)):=⟨hb,hi,by simp;omega,by simp;omega⟩
 have h25:∀p:aA,p.ok->Ret pg 25 [p.av] (.bool (PA p)):=c25 C.nv.f25 C.nv.f40 C.nv.f41 C.nv.f42 C.nv.f56 C.nv.f26;have h568:=c568 C.f568;have h556:=c556 C.f556 h568 (c569 C.f569 h568 h25) n hb hi;have h558:∀(nl cl:Bool)(vars:List Str),(nl=true->vars=[])->nT n vars->∀values:Int,Ret pg 558 [n.av,.sl nl (vars.map Str.av) cl,.int .i64 values] (.bool (eM n vars values)):=
  λnl cl vars _ hs values=>c558 C.nv.f558 (λs=>c77 C.nv.f77 C.nv.f114 C.nv.f115 s.bs s.ok) C.nv.f572 (λl nl cl vars hb=>c573 C.nv.f573 (q54 C) C.nv.f595 C.nv.f572 l nl cl vars hb) (aHt C.nv) (c574 C.nv.f574 (aHu C.nv)) n nl cl vars hs values
 have h1009:=c1009 C.f1009 C.f1010 C.f991 (c1011 C.f1011 (q34 C)) (c978 C.f978 C.nv.f572) n env.nl env.cl env.es hns (by omega) h558 (λq hq x hp hv nl cl m m0 m1=>by
  have hxl:=hp.len;have hv2:=hv;unfold eM at hv2;simp only[aD]at hv2;have hqs:q.ok/\x.length+q.sz<=big/\cU q (x.map (·.v)) 1000=true:=by
   rw[hp.names];rcases IQ hq with rfl|⟨rfl,hd⟩
   exact⟨hb,by rw[hxl];omega,hv2.1.2⟩;have h2:=hv2.2;rw[if_pos hd]at h2;simp only[aD]at h2;exact⟨hi,by rw[hxl];omega,h2.1⟩
  have hvv:=hqs.2.2;simp only[cU,aD]at hvv;exact c979 C.f979 C.f991 (q34 C) 1000 q hqs.1 x hqs.2.1 hvv.2 nl cl m m0 m1)
 have h1008:=c1008 C.f1008 n env.nl env.cl env.es h556 (c969 C.f969 env.nl env.cl env.es env.ok) h1009;refine c1007 C.f1007 h968 n env.nl env.cl env.es (arrs.av Arr.av) rfl (by unfold Sl.av;simp only[go_sem,seval]) u u0 u1 h1008 (OV C A hx n hb hi env.nl env.cl env.es henl (by omega)) (λk c h=>?_);exact OV C A hx (tM n k c h) hb hi env.nl env.cl env.es henl (by show env.es.length+(qV k::n.loops.es).length+n.body.sz+n.index.sz<=big;simp only[List.length_cons];omega)
end
end
section
def X4(g:List AV->Nat->Hp->Option (AV×Hp)):Prop:=∀args kb h r h',g args kb h=some (r,h')->cM h=true->cM h'=true
theorem SP:X4 nP:=by
 intro args kb h r h' e ha;unfold nP at e
 repeat' (split at e)
 all_goals first|(cases e;done)|(cases e;exact ha)
theorem SN:X4 oQ:=by
 intro args kb h r h' e ha;unfold oQ at e
 repeat' (split at e)
 all_goals first|(cases e;done)|(cases e;exact ha)
theorem SL:X4 sZ:=by
 intro args kb h r h' e ha;unfold sZ at e
 repeat' (split at e)
 all_goals first|(cases e;done)|(cases e;exact ha)|(cases e;exact bO ha)
theorem SO:X4 s6:=by
 intro args kb h r h' e ha;unfold s6 at e
 repeat' (split at e)
 all_goals first|(cases e;done)|(cases e;exact ha)|(cases e;exact bO ha)
theorem SM:X4 vL:=by
 intro args kb h r h' e ha;unfold vL at e
 repeat' (split at e)
 all_goals first|(cases e;done)|(cases e;exact ha)
end
end Go.Tev
