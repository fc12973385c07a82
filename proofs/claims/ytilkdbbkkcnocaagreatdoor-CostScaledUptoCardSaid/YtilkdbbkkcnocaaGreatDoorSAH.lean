import Derived.Test.YtilkdbbkkcnocaaGreatDoorSAG
import Derived.ControlIn
set_option linter.all false
namespace Go.Tev
section
def ns:Nat->List Bool->List Bool
 |0,l=>l
 |n+1,l=>false::ns n l
open Go.RowKit
def fitRs(P:Program)(num gnum:Nat->Nat)(ops:Array Oper)(dr:Bool)(all:List R):Nat->List Oper->List R->Bool
 |_,[],[]=>true
 | i,o::os,r::rs=>fitR P num gnum ops o r&&(!dr||fitBef all i o r)&&fitRs P num gnum ops dr all (i+1) os rs
 |_,_,_=>false
def jV:C->Bool
 |.seq a b|.cond _ a b=>jV a&&jV b
 |.block _ a|.loop a _|.mr _ _ _ _ a _=>jV a
 |.mq p _ _ _ _ _ a _ c _ _=>jV p&&jV a&&jV c
 |.rf .. => false
 |_=>true
def fitNx(P:Program)(num gnum:Nat->Nat)(it nx more:Nat)(ops:Array Oper):Bool:=
 match ops.toList with
 |[o1,o2]=>(match o1.op with|.next (.tmp t) false=>t==it|_=>false)&&o1.dst==some nx&&o1.guard.isNone&&fitR P num gnum ops o2 {d:=some more,k:=.ext 0,xs:=[.t nx]}
 |_=>false
def fitC(P:Program)(num gnum:Nat->Nat):C->Code->Bool
 |.skip,.skip=>true
 |.reg rs d,.region _ ops d'=>d==d'&&fitRs P num gnum ops d rs 0 ops.toList rs
 |.seq a b,.seq x y=>fitC P num gnum a x&&fitC P num gnum b y
 |.cond c a b,.cond o x y=>fitX num gnum c o&&fitC P num gnum a x&&fitC P num gnum b y
 |.block id a,.block id' x=>id==id'&&fitC P num gnum a x
 |.loop a _,.loop x=>fitC P num gnum a x
 |.exit id,.exit id'=>id==id'
 |.ret,.ret=>true
 |.rf x _ ps a b,.rangeFunc g ps' c d=>fitX num gnum x g&&ps==ps'.toList&&fitC P num gnum a c&&fitC P num gnum b d&&jV a&&jV b
 |.mr it nx more out b _,.loop y=>(match y with
  |.seq (.region _ ops false) (.seq (.cond (.tmp m) .skip (.exit o)) z)=>fitNx P num gnum it nx more ops&&m==more&&o==out&&fitC P num gnum b z
  |_=>false)
 |.mq p id it nx more out b _ c _ _,.seq (.seq x (.block id' (.loop y))) w=>fitC P num gnum p x&&id==id'&&fitC P num gnum c w&&(match y with
  |.seq (.region _ ops false) (.seq (.cond (.tmp m) .skip (.exit o)) z)=>fitNx P num gnum it nx more ops&&m==more&&o==out&&fitC P num gnum b z
  |_=>false)
 |.bad,_=>true
 |_,_=>false
def fitRes(P:Program):List (Sum Nat (Nat×Nat×Bool))->List ResultVar->Bool
 |[],[]=>true
 |.inl t::r,.tmp u::s=>t==u&&fitRes P r s
 |.inr (t,sz,ag)::r,.cell u ty::s=>t==u&&fitT P ty sz ag&&fitRes P r s
 |_,_=>false
def fitF(P:Program)(num gnum:Nat->Nat)(cf:CF)(fn:Func):Bool:=
 match fn.body with
 |some c=>fitC P num gnum cf.body c&&fn.ntmps==cf.nt&&fn.name != "runtime.NumGoroutine" && fitRes P cf.res fn.results.toList
 |none=>false
def sX:Ex->Exit
 |.nor => .normal
 |.ext id => .exit id
 |.ret => .ret
section
variable{P:Program}{num:Nm}{gl:Nat->Option AV}{gnum:Nat->Nat}{call:aW}{Fb:Nat->Prop}{B0:Nat}{ρ0:Rho}{w0:World}{O0:Nat->Prop}
theorem fitRs_get{ops:Array Oper}{dr:Bool}{all:List R}:∀{i:Nat}{os:List Oper}{rs:List R},fitRs P num gnum ops dr all i os rs=true ->
  rs.length=os.length/\∀(j:Nat)(o:Oper)(r:R),os[j]?=some o->rs[j]?=some r->fitR P num gnum ops o r=true/\(dr=true->fitBef all (i+j) o r=true)
 |_,[],[],_=>⟨rfl,by intro j o r h;simp at h⟩
 |_,[],_::_,h=>by simp[fitRs]at h
 |_,_::_,[],h=>by simp[fitRs]at h
 |i,o0::os,r0::rs,h=>by
  simp only[fitRs,aD,Bool.or_eq_true,fY]at h;obtain⟨h1,h2⟩:=fitRs_get h.2;refine⟨by simp[h1],?_⟩;intro j o r ho hr;cases j with
  |zero=>
   simp at ho hr;subst ho hr
   exact⟨h.1.1,λq=>by
    rcases h.1.2 with h|h;rw[q]at h;cases h;exact h⟩
  |succ j=>
   obtain⟨q1,q2⟩:=h2 j o r (by simpa using ho) (by simpa using hr)
   exact⟨q1,λq=>by
    have:=q2 q;rwa [Nat.add_assoc,Nat.add_comm 1 j]at this⟩
theorem zB{ro:Option Nat}(hc:lW P num gl gnum call){kb:Nat}{ops:Array Oper}{Q:Exit->Act->World->Prop}:∀{rs:List R}{i:Nat}{st st':St}{a:Act}{w:World},
  mT gl call kb rs st=some st'->(∀(j:Nat)(r:R),rs[j]?=some r->∃o,ops[i+j]?=some o/\fitR P num gnum ops o r=true) ->
  gH num gl gnum Fb B0 ρ0 w0 O0 st a w->(∀a' w',gH num gl gnum Fb B0 ρ0 w0 O0 st' a' w'->Q .normal a' w')->wpOpsIn (FW ro) 0 P ops Q (List.range' i rs.length) a w
 |[],i,st,st',a,w,h,_,hG,hK=>by simp[mT]at h;subst h;exact hK a w hG
 |r::rs,i,st,st',a,w,h,hf,hG,hK=>by
  unfold mT at h;split at h
  case h_2=>cases h
  rename_i st1 e hs;simp only[List.length_cons,List.range'_succ,wpOpsIn_cons];obtain⟨o,ho,hfo⟩:=hf 0 r rfl;refine sF hc (by simpa using ho) hfo hG hs ?_;intro a' w' hG';refine zB hc h ?_ hG' hK;intro j r' hr';obtain⟨o',q1,q2⟩:=hf (j+1) r' (by simpa using hr');exact⟨o',by rw[Nat.add_assoc,Nat.add_comm 1 j];exact q1,q2⟩
theorem vQ:∀{m:List Bool}{env:List AV}{t:Nat}{x:AV},(clear m env)[t]?=some x->x = .top\/env[t]?=some x
 |[],env,t,x,h=>by cases env<;>simp[clear]at h ⊢ <;> exact .inr h
 |b::m,[],t,x,h=>by cases b<;>simp[clear]at h
 |b::m,v::r,t,x,h=>by
  cases b with
  |true=>
   simp only[clear]at h;cases t with
   |zero=>right;simpa using h
   |succ t=>rcases vQ (m:=m) (env:=r) (t:=t) (x:=x) (by simpa using h) with q|q;exact .inl q;right;simpa using q
  |false=>
   simp only[clear]at h;cases t with
   |zero=>left;simpa using h.symm
   |succ t=>rcases vQ (m:=m) (env:=r) (t:=t) (x:=x) (by simpa using h) with q|q;exact .inl q;right;simpa using q
theorem kA:∀(m:List Bool)(env:List AV),(clear m env).length=env.length
 |[],env=>by cases env<;>simp[clear]
 |b::m,[]=>by cases b<;>simp[clear]
 |b::m,v::r=>by cases b<;>simp[clear,kA m r]
theorem gH.clear{st:St}{a:Act}{w:World}(h:gH num gl gnum Fb B0 ρ0 w0 O0 st a w)(m:List Bool):gH num gl gnum Fb B0 ρ0 w0 O0 ⟨clear m st.env,st.hp⟩ a w:=by obtain⟨ρ,O,h1,h2,h3,h4,h5⟩:=h;refine⟨ρ,O,h1,h2,h3,⟨by simp only[kA];exact h4.size,?_,h4.defers⟩,h5⟩;intro t x y hx hy;rcases vQ hx with rfl|q;exact .top _;exact h4.get t x y q hy
theorem HO{ro:Option Nat}{c:Code}{Q:Exit->Act->World->Prop}(I:Nat->Act->World->Prop)
  (round:∀n a w,I n a w->c.wpIn (FW ro) 0 P (Exit.then (λa' w'=>∃m,m<n/\I m a' w') Q) a w) {n:Nat} {a:Act} {w:World} (h0:I n a w):(Code.loop c).wpIn (FW ro) 0 P Q a w:=by
 have least:∀(a:Act)(w:World),(∃n,I n a w)->∃n,I n a w/\∀m,I m a w->n<=m:=by
  intro a w ⟨n,hn⟩
  induction n using Nat.strongRecOn with
  |ind n ih=>
   by_cases h:∃m,m<n/\I m a w;obtain⟨m,h1,h2⟩:=h;exact ih m h1 h2
   exact⟨n,hn,λm hm=>by
    rcases Nat.lt_or_ge m n with q|q;exact absurd ⟨m,q,hm⟩ h;exact q⟩
 let μ : Act->World->Nat:=λa w=>open Classical in if h:∃n,I n a w then (least a w h).choose else 0
 refine wpIn_loop (λa w=>∃n,I n a w) μ ⟨n,h0⟩ ?_;intro a w h;have hspec:=(least a w h).choose_spec;refine wpIn_mono (round _ a w hspec.1) ?_;intro e a' w' hq;cases e<;>simp only[Exit.then]at hq ⊢ <;> try exact hq
 obtain⟨m,hm,hI⟩:=hq;refine⟨⟨m,hI⟩,?_⟩;have hspec':=(least a' w' ⟨m,hI⟩).choose_spec;have:=hspec'.2 m hI;show μ a' w' < μ a w;have e1 : μ a w=(least a w h).choose:=by simp only[μ];rw[dif_pos h]
 have e2 : μ a' w'=(least a' w' ⟨m,hI⟩).choose:=by simp only[μ];rw[dif_pos ⟨m,hI⟩]
 rw[e1,e2];omega
theorem BK{α : Type}{eq : α -> α -> Bool}(he:∀x y,eq x y=true->x=y){f:Nat->Option α}{r : α}:∀{l:List Nat},iH eq f l=some r->∀b∈l,f b=some r
 |[],h=>by simp[iH]at h
 |[b],h=>by intro b' hb';simp at hb';subst hb';exact h
 |b::b2::l,h=>by
  simp only[iH]at h;split at h
  case h_2=>cases h
  rename_i r1 s1 h1 h2;split at h
  case isFalse=>cases h
  rename_i hq;cases h;have:=he _ _ hq;subst this;intro b' hb';rcases List.mem_cons.1 hb' with rfl|hb';exact h1;exact BK he h2 b' hb'
theorem AK:∀{x y:Hp},MW x y=true->x=y
 |[],[],_=>rfl
 |[],_::_,h=>by simp[MW]at h
 |_::_,[],h=>by simp[MW]at h
 |x::r,y::s,h=>by simp only[MW,aD,beq_iff_eq]at h;have h1:=AI h.1.2;have h2:=AK h.2;obtain⟨k,e,o⟩:=x;obtain⟨k',e',o'⟩:=y;obtain⟨⟨⟨rfl,rfl⟩,_⟩,_⟩:=h;simp only at h1;rw[h1,h2]
theorem RU{x y:Ex×St}(h:eqR x y=true):x=y:=by simp only[eqR,aD,cK]at h;obtain⟨x1,e1,h1⟩:=x;obtain⟨y1,e2,h2⟩:=y;obtain⟨⟨q1,q2⟩,q3⟩:=h;simp only at q1 q2 q3;rw[q1,fP _ _ q2,AK q3]
theorem gH.killI{st:St}{a:Act}{w:World}{k e:Nat}{h:Hp}(hG:gH num gl gnum Fb B0 ρ0 w0 O0 st a w)(hk:killI st.hp k e=some h):gH num gl gnum Fb B0 ρ0 w0 O0 ⟨st.env,h⟩ a w:=by
 obtain⟨ρ,O,h1,h2,h3,h4,h5⟩:=hG;unfold Tev.killI at hk;split at hk
 case h_2=>cases hk
 rename_i hg;split at hk
 case isFalse=>cases hk
 rename_i he;cases hk;subst he;exact⟨ρ,O,h1,h2.kill hg,h3,h4,h5⟩
theorem CY{c:Array MapEntry}{seen bs:List Nat}(hb:c.toList.map MapEntry.born=bs):(leftOf c seen.toArray).toList.map MapEntry.born=UM bs seen:=by subst hb;simp only[leftOf,UM,Array.toList_filter,List.filter_map];congr 1;apply List.filter_congr;intro x _;simp
theorem MH{ro:Option Nat}{i it nx k e:Nat}{ops:Array Oper}{o:Oper}{st:St}{l:List Nat}{ob:Nat->Ob}{a:Act}{w:World}(hi:ops[i]?=some o)(ho:o.op = .next (.tmp it) false)(hd:o.dst=some nx)(hgd:o.guard=none)
  (hG:gH num gl gnum Fb B0 ρ0 w0 O0 st a w) (hit:gB st.env it = .pt k e 0) (hx:OU st.hp k e=some (l,ob)) {K:Act->World->Prop} {Q:Exit->Act->World->Prop}
  (h0:l=[]->∀a' w',gH num gl gnum Fb B0 ρ0 w0 O0 ⟨eH st.env (some nx) (.tup [.bool false]),st.hp⟩ a' w'->K a' w')
  (h1:∀b∈l,∀a' w',gH num gl gnum Fb B0 ρ0 w0 O0 ⟨eH st.env (some nx) (.tup [.bool true,.top,.top]),st.hp.put k e (ob b)⟩ a' w'->K a' w'):wpOpIn (FW ro) 0 P ops Q i K a w:=by
 obtain⟨ρ,O,ev0,H,hg,he,hmk⟩:=hG;unfold OU at hx;split at hx
 case h_2=>cases hx
 rename_i e' mk me since seen last hgk;split at hx
 case isFalse=>cases hx
 rename_i hee;subst hee;split at hx
 case h_2=>cases hx
 rename_i e2 es bs ck hgm;split at hx
 case isFalse=>cases hx
 rename_i hc;obtain⟨rfl,hall,hsl⟩:=hc;cases hx;have ht:=he.tmp it;rw[hit]at ht;obtain⟨L,hp,hL⟩:=ht.of_pt;obtain⟨L1,Lm,q1,q2,q3,q4,q5,q6⟩:=H.ito _ _ _ _ _ _ _ hgk;rw[hL]at q1;cases q1;obtain⟨c,hh,hal,hbo⟩:=H.all2M hgm q2;have hold:∀x∈c.toList,x.born<since:=by
  intro x hx;have:x.born∈bs:=by rw[<-hbo];exact List.mem_map.2 ⟨x,hx,rfl⟩
  simpa using eK.1 hall _ this
 have hnd:∀c,o.op ≠ .defer c:=by intro c hc;rw[ho]at hc;cases hc
 have hpe:a.eval (.tmp it) = .pointer (some ⟨L.b,0,none⟩):=by show a.tmps.getD it undef=_;rw[hp,q4]
 unfold wpOpIn;rw[hi];have hw:Region.wanted o (yielded ops a.tmps)=true:=by simp[Region.wanted,hgd]
 simp only[hw,if_true];refine⟨λ_ _=>trivial,?_⟩;rw[Oper.semAt_eq _ _ _ hnd];rcases run_next_at (P:=P) w o.type L.b Lm.b since last seen.toArray c ck q3 hh hold hsl with ⟨z0,hrun⟩|⟨x,hxm,w1,hw1,hrun⟩
 have hr:(execOp a.eval o).run P w = .ok (.value (.tuple #[.bool false])) w:=by simp only[execOp,ho,hpe];simp[hrun,Result.andThen]
 rw[hr];refine h0 ?_ _ _ ⟨ρ,O,ev0,H,hg,?_,by rw[oS];exact hmk⟩;rw[<-CY hbo];have:(leftOf c seen.toArray).toList=[]:=by have:(leftOf c seen.toArray) = #[]:=Array.eq_empty_of_size_eq_zero z0;rw[this]
 rw[this];rfl;rw[hd];exact he.put (.of_all2_tup (.cons (.bool _) .nil)) (some nx);have hr:(execOp a.eval o).run P w = .ok (.value (.tuple #[.bool true,x.key,x.val])) (ChangeMaps.setBlock w1 L.b (.mapIter (some Lm.b) since (seen.toArray.push x.born) ck)):=by simp only[execOp,ho,hpe];simp[hrun,Result.andThen]
 rw[hr];have hev1:Evo ρ w O ρ w1 O/\w1.heap=w.heap:=by rcases hw1 with rfl|rfl;exact⟨Evo.refl _ _ _,rfl⟩;exact⟨⟨rfl,rfl,rfl,Nat.le_refl _,λ_ _ _=>rfl,λ_ _ q=>q,λ_ _ _ q=>q⟩,rfl⟩
 obtain⟨ev1,hhp⟩:=hev1;have H1:=H.same ev1 (λb _=>by rw[hhp]);have q3':w1.heap[L.b]?=some (.mapIter (some Lm.b) since seen.toArray last):=by rw[hhp];exact q3
 have htn:fH w1 (ChangeMaps.setBlock w1 L.b (.mapIter (some Lm.b) since (seen++[x.born]).toArray ck)) L.b (.mapIter (some Lm.b) since (seen++[x.born]).toArray ck):=iA q3';have hps:seen.toArray.push x.born=(seen++[x.born]).toArray:=by simp
 obtain⟨ev2,H2⟩:=H1.turnI hgk hL q2 htn;rw[hps];have ev:=ev1.trans ev2;refine h1 x.born ?_ _ _ ⟨ρ,O,ev0.trans ev,H2,hg.evo ev,?_,by rw[oS];exact hmk⟩;rw[<-CY hbo];exact List.mem_map.2 ⟨x,hxm,rfl⟩;rw[hd];exact(he.evo ev).put (.of_all2_tup (.cons (.bool _) (.cons (.top _) (.cons (.top _) .nil)))) (some nx)
theorem gH.drop{kb:Nat}:∀{dr:List Nat}{st:St}{a:Act}{w:World},gH num gl gnum Fb B0 ρ0 w0 O0 st a w->gH num gl gnum Fb B0 ρ0 w0 O0 ⟨st.env,AN kb dr st.hp⟩ a w
 |[],_,_,_,h=>h
 |s::r,st,a,w,h=>by
  unfold AN;cases hg:st.hp.get (kb+s) with
  |none=>exact gH.drop (dr:=r) (st:=⟨st.env,st.hp⟩) h
  |some p=>obtain⟨e,o⟩:=p;refine gH.drop (dr:=r) (st:=⟨st.env,st.hp.put (kb+s) e .dead⟩) ?_;obtain⟨ρ,O,h1,h2,h3,h4,h5⟩:=h;exact⟨ρ,O,h1,h2.kill hg,h3,h4,h5⟩
theorem I2{ro:Option Nat}{kb n it nx m o id:Nat}{clr:List Bool}{c:C}{z:Code}{ops:Array Oper}{o1 o2:Oper}{fin:Ex×St->Option (Ex×St)}{r0:Ex×St}(hc:lW P num gl gnum call)(hops:ops.toList=[o1,o2])
  (p1':o1.op = .next (.tmp it) false) (p2:o1.dst=some nx) (p3:o1.guard=none) (p4:fitR P num gnum ops o2 {d:=some m,k:=.ext 0,xs:=[.t nx]}=true) (f4:fitC P num gnum c z=true) (hn:ro=none\/jV c=true)
  (ih:∀{code:Code}{Q:Exit->Act->World->Prop}{st st':St}{x:Ex}{a:Act}{w:World},bE gl call kb n c st=some (x,st')->fitC P num gnum c code=true->(ro=none\/jV c=true)->gH num gl gnum Fb B0 ρ0 w0 O0 st a w ->
   (∀a' w',gH num gl gnum Fb B0 ρ0 w0 O0 st' a' w'->Q (sX x) a' w')->code.wpIn (FW ro) 0 P Q a w)
  {Q:Exit->Act->World->Prop} (hK:∀x1 st1,fin (x1,st1)=some r0->∀a' w',gH num gl gnum Fb B0 ρ0 w0 O0 st1 a' w'->Q (sX x1) a' w') {a:Act} {w:World} :
  ∀q,(∃s,mrN (bE gl call kb n c) fin it nx m o clr q s=some r0/\gH num gl gnum Fb B0 ρ0 w0 O0 s a w)->(Code.loop (.seq (.region id ops false) (.seq (.cond (.tmp m) .skip (.exit o)) z))).wpIn (FW ro) 0 P Q a w:=by
 have i1:ops[0]?=some o1:=by rw[<-Array.getElem?_toList,hops];rfl
 have i2:ops[1]?=some o2:=by rw[<-Array.getElem?_toList,hops];rfl
 have hsz:ops.size=2:=by rw[<-Array.length_toList,hops];rfl
 intro q hs;refine HO (I:=λq a w=>∃s,mrN (bE gl call kb n c) fin it nx m o clr q s=some r0/\gH num gl gnum Fb B0 ρ0 w0 O0 s a w) ?_ hs;intro q a w ⟨s,hs,hGs⟩;cases q with
 |zero=>simp[mrN]at hs
 |succ q=>
  simp only[mrN]at hs;split at hs
  case isFalse=>cases hs
  rename_i hlen;split at hs
  case h_2=>cases hs
  rename_i k e hit;split at hs
  case h_2=>cases hs
  rename_i l ob hx;have hn1:nx<(clear clr s.env).length:=by rw[kA];exact hlen.1
  have hn2:m<(clear clr s.env).length:=by rw[kA];exact hlen.2
  refine wpIn_seq (wpIn_region ?_);rw[hsz];show wpOpsIn (FW ro) 0 P ops _ [0,1] a w;rw[wpOpsIn_cons];have step:∀(b:Bool)(r:List AV)(hp:Hp)(a':Act)(w':World),gH num gl gnum Fb B0 ρ0 w0 O0 ⟨eH (clear clr s.env) (some nx) (.tup (.bool b::r)),hp⟩ a' w' ->
    (∀a' w',gH num gl gnum Fb B0 ρ0 w0 O0 ⟨((clear clr s.env).set nx (.tup (.bool b::r))).set m (.bool b),hp⟩ a' w'->(Code.seq (.cond (.tmp m) .skip (.exit o)) z).wpIn (FW ro) 0 P (Exit.then (λa' w'=>∃p,p<q+1/\∃s,mrN (bE gl call kb n c) fin it nx m o clr p s=some r0/\gH num gl gnum Fb B0 ρ0 w0 O0 s a' w') Q) a' w') ->
    wpOpsIn (FW ro) 0 P ops (Exit.then (λa' w'=>(Code.seq (.cond (.tmp m) .skip (.exit o)) z).wpIn (FW ro) 0 P (Exit.then (λa' w'=>∃p,p<q+1/\∃s,mrN (bE gl call kb n c) fin it nx m o clr p s=some r0/\gH num gl gnum Fb B0 ρ0 w0 O0 s a' w') Q) a' w') (Exit.then (λa' w'=>∃p,p<q+1/\∃s,mrN (bE gl call kb n c) fin it nx m o clr p s=some r0/\gH num gl gnum Fb B0 ρ0 w0 O0 s a' w') Q)) [1] a' w':=by
   intro b r hp a' w' hG1 hK1;rw[wpOpsIn_cons];refine sF (kb:=kb) hc i2 p4 hG1 (st':=⟨((clear clr s.env).set nx (.tup (.bool b::r))).set m (.bool b),hp⟩) (eff:=.pat [] []) ?_ ?_;have hgt:gB ((clear clr s.env).set nx (.tup (.bool b::r))) nx = .tup (.bool b::r):=by unfold gB;rw[List.getElem?_set_self hn1];rfl
   simp only[iB,wanted,eH,opR,FF,JO,List.map_cons,List.map_nil,X.ev,hgt];rfl;intro a2 w2 hG2;exact hK1 a2 w2 hG2
  refine MH i1 p1' p2 p3 (hGs.clear clr) hit hx ?_ ?_;intro hl a' w' hG1;subst hl;simp only[List.isEmpty_nil,if_true]at hs;cases hki:killI s.hp k e with
  |none=>simp[hki]at hs
  |some h2=>
   simp only[hki,Option.bind_some]at hs;refine step false [] _ a' w' hG1 (λa2 w2 hG2=>?_);have hv:a2.eval (.tmp m) = .bool false:=by obtain⟨ρ,O,_,_,_,he,_⟩:=hG2;have:=he.tmp m;unfold gB at this;rw[List.getElem?_set_self (by simpa using hn2)]at this;exact this.of_bool
   refine wpIn_seq (wpIn_cond_false hv (wpIn_exit ?_));exact hK _ _ hs _ _ (hG2.killI hki)
  intro b hb a' w' hG1;have hne:l.isEmpty=false:=by
   cases l with
   |nil=>cases hb
   |cons=>rfl
  rw[hne]at hs;simp only[Bool.false_eq_true,if_false]at hs;have hs':=BK (λx y=>RU) hs b hb;refine step true [.top,.top] _ a' w' hG1 (λa2 w2 hG2=>?_);have hv:a2.eval (.tmp m) = .bool true:=by obtain⟨ρ,O,_,_,_,he,_⟩:=hG2;have:=he.tmp m;unfold gB at this;rw[List.getElem?_set_self (by simpa using hn2)]at this;exact this.of_bool
  refine wpIn_seq (wpIn_cond_true hv (wpIn_skip ?_));simp only[Exit.then];split at hs';rename_i s1 h1;refine ih h1 f4 hn hG2 ?_;intro a3 w3 hG3;exact⟨q,Nat.lt_succ_self q,s1,hs',hG3⟩;rename_i x1 s1 hne1 h1;cases hki:killI s1.hp k e with
  |none=>simp[hki]at hs'
  |some h2=>
   simp only[hki,Option.bind_some]at hs';refine ih h1 f4 hn hG2 ?_;intro a3 w3 hG3;have:=hK _ _ hs' a3 w3 (hG3.killI hki);cases x1 with
   |nor=>exact(by first|exact(hne1 _ rfl).elim|exact hne1.elim|exact absurd rfl hne1|simp at hne1)
   |ext id=>exact this
   |ret=>exact this
  cases hs'
theorem sY{ro:Option Nat}(hm:P.follows .mixedOrders=true)(hc:lW P num gl gnum call)
  (hlk:∀(ps:List Nat)(ca cb:C)(r:Loop),r.params.toList=ps->fitC P num gnum ca r.assign=true->fitC P num gnum cb r.body=true->jV ca=true->jV cb=true->num.lk ps ca cb r) {kb n:Nat}:∀{c:C}{code:Code}{Q:Exit->Act->World->Prop}{st st':St}{x:Ex}{a:Act}{w:World},
  bE gl call kb n c st=some (x,st')->fitC P num gnum c code=true->(ro=none\/jV c=true)->gH num gl gnum Fb B0 ρ0 w0 O0 st a w ->
  (∀a' w',gH num gl gnum Fb B0 ρ0 w0 O0 st' a' w'->Q (sX x) a' w')->code.wpIn (FW ro) 0 P Q a w:=by
 intro c
 induction c with
 |skip=>intro code Q st st' x a w h hf hn hG hK;cases code<;>simp[fitC]at hf;simp[bE]at h;obtain⟨rfl,rfl⟩:=h;exact wpIn_skip (hK _ _ hG)
 |reg rs d=>
  intro code Q st st' x a w h hf hn hG hK;cases code<;>simp[fitC]at hf;rename_i id ops d';obtain⟨rfl,hf⟩:=hf;obtain⟨f1,f2⟩:=fitRs_get hf;cases d with
  |false=>
   simp only[bE]at h;cases hr:mT gl call kb rs st with
   |none=>simp[hr]at h
   |some s=>
    simp[hr]at h;obtain⟨rfl,rfl⟩:=h;refine wpIn_region ?_;have hl:ops.size=rs.length:=by simpa using f1.symm
    rw[List.range_eq_range',hl];refine zB hc hr ?_ hG hK;intro j r hrj;have hj:j<ops.size:=by have:=(cF.1 hrj).1;omega
    exact⟨ops[j],by simp[hj],(f2 j ops[j] r (by simp[hj]) hrj).1⟩
  |true=>
   simp only[bE]at h;split at h
   case h_2=>cases h
   rename_i s es hr;split at h
   case isFalse=>cases h
   rename_i hap;simp at h;obtain⟨rfl,rfl⟩:=h;refine wpIn_region_any hm ?_;refine MY hc (by simpa using f1) ?_ hr hap hK ?_;intro i o r ho hri;obtain⟨q1,q2⟩:=f2 i o r (by simpa using ho) hri;exact⟨q1,by simpa using q2 rfl⟩;obtain⟨ρ,O,h1,h2,h3,h4,h5⟩:=hG;have ev:Evo ρ w O ρ {w with drawn:=w.drawn+1} O:=⟨rfl,rfl,rfl,Nat.le_refl _,λ_ _ _=>rfl,λ_ _ q=>q,λ_ _ _ q=>q⟩
   exact⟨ρ,O,h1.trans ev,h2.same ev (λ_ _=>rfl),h3.evo ev,h4.evo ev,h5⟩
 |seq c1 c2 ih1 ih2=>
  intro code Q st st' x a w h hf hn hG hK;cases code<;>simp[fitC]at hf;have hn1:ro=none\/jV c1=true:=hn.imp id (λq=>by simp only[jV,aD]at q;exact q.1);have hn2:ro=none\/jV c2=true:=hn.imp id (λq=>by simp only[jV,aD]at q;exact q.2);simp only[bE]at h;refine wpIn_seq ?_;split at h;rename_i st1 h1;exact ih1 h1 hf.1 hn1 hG (λa' w' hG'=>ih2 h hf.2 hn2 hG' hK);rename_i hne;refine ih1 h hf.1 hn1 hG ?_;intro a' w' hG';have:=hK a' w' hG';cases x with
  |nor=>exact absurd h (hne _)
  |ext id=>exact this
  |ret=>exact this
 |cond c c1 c2 ih1 ih2=>
  intro code Q st st' x a w h hf hn hG hK;cases code<;>simp[fitC]at hf;rename_i o x1 x2;obtain⟨⟨hx,h1⟩,h2⟩:=hf;have hn1:ro=none\/jV c1=true:=hn.imp id (λq=>by simp only[jV,aD]at q;exact q.1);have hn2:ro=none\/jV c2=true:=hn.imp id (λq=>by simp only[jV,aD]at q;exact q.2);simp only[bE]at h
  have hv:∃(ρ : Rho)(O:Nat->Prop),Rv num ρ w (λb=>Fb b\/O b) (c.ev gl st.env) (a.eval o):=by obtain⟨ρ,O,q1,q2,q3,q4,_⟩:=hG;exact⟨ρ,O,AG q4 q3 hx⟩
  obtain⟨ρ,O,hv⟩:=hv;split at h;rename_i hb;rw[hb]at hv;exact wpIn_cond_true hv.of_bool (ih1 h h1 hn1 hG hK);rename_i hb;rw[hb]at hv;exact wpIn_cond_false hv.of_bool (ih2 h h2 hn2 hG hK);cases h
 |block id c ih=>
  intro code Q st st' x a w h hf hn hG hK;cases code<;>simp[fitC]at hf;obtain⟨rfl,hf⟩:=hf;simp only[bE]at h;refine wpIn_block ?_;split at h;rename_i i st1 h1;refine ih h1 hf hn hG ?_;intro a' w' hG';split at h;rename_i hi;cases h;simp only[sX,Exit.inBlock,hi,if_true];exact hK _ _ hG';rename_i hi;cases h;simp only[sX,Exit.inBlock];rw[if_neg hi];exact hK _ _ hG';rename_i hne;refine ih h hf hn hG ?_;intro a' w' hG';have:=hK a' w' hG';cases x with
  |nor=>exact this
  |ext id=>exact absurd h (hne _ _)
  |ret=>exact this
 |loop c clr ih=>
  intro code Q st st' x a w h hf hn hG hK;cases code<;>simp[fitC]at hf;rename_i code;simp only[bE]at h;have key:∀m,(∃s,i7 (bE gl call kb n c) clr m s=some (x,st')/\gH num gl gnum Fb B0 ρ0 w0 O0 s a w)->(Code.loop code).wpIn (FW ro) 0 P Q a w:=by
   intro m hs;refine HO (I:=λm a w=>∃s,i7 (bE gl call kb n c) clr m s=some (x,st')/\gH num gl gnum Fb B0 ρ0 w0 O0 s a w) ?_ hs;intro m a w ⟨s,hs,hGs⟩;cases m with
   |zero=>simp[i7]at hs
   |succ m=>
    simp only[i7]at hs;split at hs;rename_i s1 h1;refine ih h1 hf hn (hGs.clear clr) ?_;intro a' w' hG';exact⟨m,Nat.lt_succ_self m,s1,hs,hG'⟩;rename_i hne;refine ih hs hf hn (hGs.clear clr) ?_;intro a' w' hG';have:=hK a' w' hG';cases x with
    |nor=>exact absurd hs (hne _)
    |ext id=>exact this
    |ret=>exact this
  exact key n ⟨st,h,hG⟩
 |exit id=>intro code Q st st' x a w h hf hn hG hK;cases code<;>simp[fitC]at hf;subst hf;simp[bE]at h;obtain⟨rfl,rfl⟩:=h;exact wpIn_exit (hK _ _ hG)
 |ret=>intro code Q st st' x a w h hf hn hG hK;cases code<;>simp[fitC]at hf;simp[bE]at h;obtain⟨rfl,rfl⟩:=h;exact wpIn_ret (hK _ _ hG)
 |bad=>intro code Q st st' x a w h;simp[bE]at h
 |mr it nx more out c clr ih=>
  intro code Q st st' x a w h hf hn hG hK;cases code<;>simp only[fitC,Bool.false_eq_true]at hf;rename_i y;split at hf
  case h_2=>cases hf
  rename_i id ops m o z;simp only[aD,beq_iff_eq]at hf;obtain⟨⟨⟨f1,rfl⟩,rfl⟩,f4⟩:=hf;unfold fitNx at f1;split at f1
  case h_2=>cases f1
  rename_i o1 o2 hops;simp only[aD,beq_iff_eq,Option.isNone_iff_eq_none]at f1;obtain⟨⟨⟨p1,p2⟩,p3⟩,p4⟩:=f1;have p1':o1.op = .next (.tmp it) false:=by split at p1;rename_i t hop;simp at p1;rw[hop,p1];cases p1
  simp only[bE]at h;refine I2 hc hops p1' p2 p3 p4 f4 hn ih ?_ n ⟨st,h,hG⟩;intro x1 st1 h1 a' w' hG';cases h1;exact hK _ _ hG'
 |mq p bid it nx more out c clr c2 msk drop ihp ih ih2=>
  intro code Q st st' x a w h hf hn hG hK;have hnp:ro=none\/jV p=true:=hn.imp id (λq=>by simp only[jV,aD]at q;exact q.1.1);have hnc:ro=none\/jV c=true:=hn.imp id (λq=>by simp only[jV,aD]at q;exact q.1.2);have hn2:ro=none\/jV c2=true:=hn.imp id (λq=>by simp only[jV,aD]at q;exact q.2);cases code<;>first|(simp only[fitC,Bool.false_eq_true]at hf;done)|skip
  rename_i u v;cases u<;>first|(simp only[fitC,Bool.false_eq_true]at hf;done)|skip
  rename_i xc y0;cases y0<;>first|(simp only[fitC,Bool.false_eq_true]at hf;done)|skip
  rename_i bid' y1;cases y1<;>first|(simp only[fitC,Bool.false_eq_true]at hf;done)|skip
  simp only[fitC]at hf;rename_i y;simp only[aD,beq_iff_eq]at hf;obtain⟨⟨⟨g1,rfl⟩,g2⟩,hf⟩:=hf;split at hf
  case h_2=>cases hf
  rename_i id ops m o z;simp only[aD,beq_iff_eq]at hf;obtain⟨⟨⟨f1,rfl⟩,rfl⟩,f4⟩:=hf;unfold fitNx at f1;split at f1
  case h_2=>cases f1
  rename_i o1 o2 hops;simp only[aD,beq_iff_eq,Option.isNone_iff_eq_none]at f1;obtain⟨⟨⟨p1,p2⟩,p3⟩,p4⟩:=f1;have p1':o1.op = .next (.tmp it) false:=by split at p1;rename_i t hop;simp at p1;rw[hop,p1];cases p1
  simp only[bE]at h;refine wpIn_seq (wpIn_seq ?_);split at h;rename_i st1 h1;refine ihp h1 g1 hnp hG (λa' w' hG'=>?_);refine wpIn_block ?_;refine I2 hc hops p1' p2 p3 p4 f4 hnc ih ?_ n ⟨st1,h,hG'⟩;intro x1 s1 hfin a2 w2 hG2;simp only[lH]at hfin;obtain⟨⟨xq,sq⟩,hq,hr⟩:=hfin;simp only[wL,bA]at hr;obtain⟨rfl,rfl⟩:=hr;have fin:∀a3 w3,gH num gl gnum Fb B0 ρ0 w0 O0 sq a3 w3->Q (sX xq) a3 w3:=λa3 w3 hG3=>hK a3 w3 ((hG3.clear msk).drop);have nor:bE gl call kb n c2 s1=some (xq,sq)->v.wpIn (FW ro) 0 P Q a2 w2:=λhq=>ih2 hq g2 hn2 hG2 fin;cases x1 with
  |nor=>exact nor hq
  |ret=>cases hq;exact fin _ _ hG2
  |ext i=>simp only[kY]at hq;simp only[sX,Exit.inBlock];by_cases hi:i=bid;rw[if_pos hi]at hq;rw[if_pos hi];exact nor hq;rw[if_neg hi]at hq;rw[if_neg hi];cases hq;exact fin _ _ hG2
  rename_i hne;refine ihp h g1 hnp hG ?_;intro a' w' hG';have:=hK a' w' hG';cases x with
  |nor=>exact absurd h (hne _)
  |ext id=>exact this
  |ret=>exact this
 |rf fx s ps ca cb=>
  intro code Q st st' x a w h hf hn hG hK;cases code<;>simp[fitC]at hf;rename_i g ps' cas cbd;obtain⟨⟨⟨⟨⟨hx,rfl⟩,f1⟩,f2⟩,n1⟩,n2⟩:=hf;obtain rfl:ro=none:=hn.resolve_right (by simp[jV]);simp only[bE]at h;split at h
  case h_2=>cases h
  rename_i f cs hfx;split at h
  case h_2=>cases h
  rename_i rr h' hcall;obtain⟨ρ,O,ev0,H,hg,he,hmk⟩:=hG;have hv:=AG he hg hx;rw[hfx]at hv;obtain⟨cvs,hfe,hcl,hcg⟩:=hv.of_fn;obtain⟨⟨fn0,z1,z2,z3⟩,hca⟩:=hc.fn _ _ _ _ _ _ hcall;refine wpIn_rangeFunc λfn _=>?_;obtain⟨r0,hr0⟩:∃r0:Loop,({state:=.ready,pending:=none,fn,tmps:=a.tmps,params:=ps',assign:=cas,body:=cbd,defers:=w.heap.size}:Loop)=r0:=⟨_,rfl⟩
  have p0:jL w (w.alloc (.deferred (some []))) (.deferred (some [])):=⟨rfl,rfl,rfl,rfl⟩
  have ev1:Evo ρ w O ρ (w.alloc (.deferred (some []))) O:=
   ⟨rfl,rfl,rfl,by rw[p0.size];omega,λb hb _=>p0.old hb,λ_ _ q=>q,λ_ _ _ q=>q⟩
  have H1:=H.same ev1 (λb hb=>p0.old (H.own b hb).2);have hs1:(w.alloc (.deferred (some []))).heap.size=w.heap.size+1:=p0.size;have p1:jL (w.alloc (.deferred (some []))) ((w.alloc (.deferred (some []))).alloc (.loop r0)) (.loop r0):=⟨rfl,rfl,rfl,rfl⟩
  have he1:=he.evo ev1;obtain⟨ev2,H2⟩:=H1.newLp (k:=kb+s) (bb:=kb) (env:=st.env) (ps:=ps'.toList) (ca:=ca) (cb:=cb) p1
   (hlk _ _ _ _ (by rw[<-hr0]) (by rw[<-hr0];exact f1) (by rw[<-hr0];exact f2) n1 n2) (.inl ⟨rfl,by rw[<-hr0],by rw[<-hr0]⟩) (by rw[<-hr0];exact he1.size)
   (λi x y hx hy=>he1.get i x y hx (by rw[<-hr0]at hy;exact hy))
  have hg2:=(hg.evo ev1).evo ev2;have ev12:=ev1.trans ev2
  have hav:aJ (Rv num _ ((w.alloc (.deferred (some []))).alloc (.loop r0)) (λb=>Fb b\/(O b\/b=(w.alloc (.deferred (some []))).heap.size))) (.yl (kb+s) (st.hp.next (kb+s))::cs) (.func (.yield (w.heap.size+1)) #[] #[]::cvs.toList):=
   .cons (by rw[<-hs1];exact .yl _ _ _ (Rho.set_same _ _ _ _)) (aJ.of_get (by simpa using hcl) (λi x y hx hy=>(hcg i x y hx (by simpa using hy)).evo ev12))
  have hcc:=hca Fb B0 _ _ _ _ H2 hg2 hav;refine⟨w.heap.size+1,[{target:=.collected w.heap.size,args := #[]}],(w.alloc (.deferred (some []))).alloc (.loop r0),{target:=.fn (.func (num f)) cvs,args := #[.func (.yield (w.heap.size+1)) #[] #[]]},
   (w.alloc (.deferred (some []))).alloc (.loop r0),num f,(Value.func (.yield (w.heap.size+1)) #[] #[]::cvs.toList).toArray,(w.alloc (.deferred (some []))).alloc (.loop r0),?_,?_,?_,?_,λh=>by simp[Fence.wide]at h,?_⟩
  rw[<-hr0];exact run_enterLoop_outer _ _ _ _ _
  ·simp only[resolve,hfe];simp[Deferred.ofValue]
   try rfl
  intro f' _;trivial;have:=fI (P:=P) (g:=num f) (args := #[.func (.yield (w.heap.size+1)) #[] #[]]++cvs) ((w.alloc (.deferred (some []))).alloc (.loop r0)) ⟨fn0,z1,z2,z3⟩;have hm:(Value.func (.yield (w.heap.size+1)) #[] #[]::cvs.toList).toArray = #[.func (.yield (w.heap.size+1)) #[] #[]]++cvs:=by apply Array.ext';simp
  rw[hm];simp[invoke,this];refine(s8 hcc).mono ?_;rintro en w3 ⟨cv,ρ3,O3,rfl,ev3,H3,_⟩;unfold AM at h;split at h
  case h_2=>cases h
  rename_i e' q bb env1 ps1 ca1 cb1 hget;split at h
  case isFalse=>cases h
  rename_i hee;subst hee;obtain⟨L,r3,q1,q2,q3,q4,q5,q6,q7,q8⟩:=H3.lpo _ _ _ _ _ _ _ _ hget
  have hL:L=⟨(w.alloc (.deferred (some []))).heap.size,0,0,false,0,λ_=>rfl⟩:=by have:=ev3.rho _ _ _ (Rho.set_same ρ (kb+s) (st.hp.next (kb+s)) ⟨(w.alloc (.deferred (some []))).heap.size,0,0,false,0,λ_=>rfl⟩);rw[q1]at this;exact Option.some.inj this
  have hLb:L.b=w.heap.size+1:=by rw[hL];exact hs1
  have hlt:L.b<w3.heap.size:=(lZ.1 q2).1;have ht:fH w3 (w3.putObj L.b (.loop {r3 with state:=.exhausted})) L.b (.loop {r3 with state:=.exhausted}):=
   ⟨rfl,rfl,rfl,by simp,by simp[World.putObj,hlt],λk hk=>World.putObj_heap_other hk⟩
  obtain⟨ev4,H4⟩:=H3.killLp hget q1 ht;have hev:=ev12.trans (ev3.trans ev4);have hD:w3.heap[w.heap.size]?=some (.deferred (some [])):=by
   have hO:¬(O w.heap.size\/w.heap.size=(w.alloc (.deferred (some []))).heap.size):=by rintro(q|q);have:=(H.own _ q).2;omega;omega
   rw[ev3.keep _ (by rw[p1.size];omega) hO,p1.old (by omega)];exact p0.new
  have hO3:¬O3 w.heap.size:=by intro q;rcases ev3.own _ (by rw[p1.size];omega) q with q|q;have:=(H.own _ q).2;omega;omega
  have hG4:∀hp,(hp=h'.put (kb+s) (st.hp.next (kb+s)) .dead)->gH num gl gnum Fb B0 ρ0 w0 O0 ⟨st.env,hp⟩ {a with defers:=[{target:=.collected w.heap.size,args := #[]}]++a.defers} (w3.putObj L.b (.loop {r3 with state:=.exhausted})):=by
   rintro hp rfl;have he4:=he.evo hev;refine⟨ρ3,O3,ev0.trans hev,H4,hg.evo hev,⟨he4.size,he4.get,⟨w.heap.size,rfl,?_,?_,?_⟩,he4.defers⟩,?_⟩;rintro(q|q);have:=H.fbl _ q;have:=H.le;omega;exact hO3 q;rw[World.putObj_heap_other (by omega)];exact hD
   have:∀{l:List Deferred},sC w (λb=>Fb b\/O b) l->∀d'∈l,d'.target ≠ .collected w.heap.size:=by
    intro l
    induction l with
    |nil=>intro _ d' hd';cases hd'
    |cons d l ih=>rintro⟨⟨D,y1,y2,y3,y4⟩,y5⟩ d' hd';rcases List.mem_cons.1 hd' with rfl|hd';intro e;rw[y1]at e;have:=(lZ.1 y3).1;cases e;omega;exact ih y5 d' hd'
   exact this he.defers;intro d hd D hDt;rcases List.mem_cons.1 hd with rfl|hd;cases hDt;exact ev0.size;exact hmk d hd D hDt
  have hstate:r3.state ≠ .busy->(Instr.endLoop (w.heap.size+1)).run P w3 = .ok r3.pending (w3.putObj L.b (.loop {r3 with state:=.exhausted})):=by intro hb;rw[<-hLb];exact run_endLoop q2 hb
  generalize w3.putObj L.b (.loop {r3 with state:=.exhausted})=w4 at hG4 hstate;refine⟨r3.pending,_,hstate ?_,?_⟩;rcases q4 with ⟨_,y,_⟩|⟨y0,y,_⟩|⟨_,y,_⟩|⟨i,_,y,_⟩
  rw[y];decide;subst y0;cases h;rw[y];decide;rw[y];decide;rcases q4 with ⟨y0,_,y⟩|⟨y0,_,y⟩|⟨y0,_,y⟩|⟨i,y0,_,y⟩
  subst y0;cases h;rw[y];exact hK _ _ (hG4 _ rfl);subst y0;cases h;subst y0;cases h;rw[y];exact wpIn_ret (hK _ _ (hG4 _ rfl));obtain rfl:q=i+4:=by omega
  simp only at h;cases h;rw[y];exact wpIn_exit (hK _ _ (hG4 _ rfl))
end
section
variable{P:Program}{num:Nm}{gnum:Nat->Nat}{Fb:Nat->Prop}{B0:Nat}{ρ : Rho}{w:World}{O:Nat->Prop}
def IJ(tmps:Array Value):ResultVar->Sem Value
 |.tmp t=>pure (tmps.getD t undef)
 |.cell c t=>do loadVar t (<-asAddr (tmps.getD c undef))
theorem IG{st:St}{a:Act}{r:Sum Nat (Nat×Nat×Bool)}{rv:ResultVar}{v:AV}(H:HpR num Fb B0 ρ w O st.hp)(he:pI num ρ w (λb=>Fb b\/O b) st.env a)
  (hf:fitRes P [r] [rv]=true) (h:wE st r=some v) :
  ∃cv,(IJ a.tmps rv).run P w = .ok cv w/\Rv num ρ w (λb=>Fb b\/O b) v cv:=by
 cases r with
 |inl t=>
  cases rv with
  |cell=>simp[fitRes]at hf
  |tmp u=>simp[fitRes]at hf;subst hf;simp[wE]at h;subst h;exact⟨_,by simp only[IJ];exact Sem.run_pure ..,he.tmp t⟩
 |inr p=>
  obtain⟨t,sz,ag⟩:=p;cases rv with
  |tmp=>simp[fitRes]at hf
  |cell u ty=>
   simp[fitRes]at hf;obtain⟨rfl,hf⟩:=hf;simp only[wE]at h;split at h
   case h_2=>cases h
   rename_i k e off hp;split at h
   case h_2=>cases h
   rename_i e' cs _ _ _ _ hg;split at h
   case isFalse=>cases h
   rename_i hee;subst hee;have ht:=he.tmp t;rw[hp]at ht;obtain⟨L,q1,q2⟩:=ht.of_pt;obtain⟨cv,r1,r2⟩:=CM H hg q2 hf h (λq=>fitT_one hf q);exact⟨cv,by simp only[IJ,q1];simp[asAddr,r1],r2⟩
theorem tP{st:St}{a:Act}(H:HpR num Fb B0 ρ w O st.hp)(he:pI num ρ w (λb=>Fb b\/O b) st.env a):∀{rs:List (Sum Nat (Nat×Nat×Bool))}{rvs:List ResultVar}{l:List AV},
  fitRes P rs rvs=true->oJ st rs=some l ->
  ∃cvs:List Value,(rvs.mapM (IJ a.tmps)).run P w = .ok cvs w/\aJ (Rv num ρ w (λb=>Fb b\/O b)) l cvs
 |[],[],l,_,h=>by simp[oJ]at h;subst h;exact⟨[],by simp,.nil⟩
 |[],_::_,l,hf,_=>by simp[fitRes]at hf
 |r::_,[],l,hf,_=>by cases r<;>simp[fitRes]at hf
 |r::rs,rv::rvs,l,hf,h=>by
  unfold oJ at h;split at h
  case h_2=>cases h
  rename_i v l' h1 h2;cases h;have hff:fitRes P [r] [rv]=true/\fitRes P rs rvs=true:=by cases r<;>cases rv<;>simp[fitRes]at hf ⊢ <;> first|exact hf|exact⟨⟨hf.1.1,hf.1.2⟩,hf.2⟩
  obtain⟨cv,q1,q2⟩:=IG H he hff.1 h1;obtain⟨cvs,q3,q4⟩:=tP H he hff.2 h2;exact⟨cv::cvs,by simp only[List.mapM_cons];simp[q1,q3],.cons q2 q4⟩
theorem E3{st:St}{a:Act}{cf:CF}{fn:Func}{v:AV}(H:HpR num Fb B0 ρ w O st.hp)(he:pI num ρ w (λb=>Fb b\/O b) st.env a)
  (hf:fitRes P cf.res fn.results.toList=true) (h:result st cf.res=some v):∃cv,(results fn a.tmps).run P w = .ok cv w/\Rv num ρ w (λb=>Fb b\/O b) v cv:=by
 unfold result at h;cases hr:oJ st cf.res with
 |none=>simp[hr]at h
 |some l=>
  obtain⟨cvs,q1,q2⟩:=tP H he hf hr;refine⟨if h:cvs.toArray.size=1 then cvs.toArray[0] else .tuple cvs.toArray,?_,?_⟩;have e:results fn a.tmps=(do
    let vs <-fn.results.mapM (IJ a.tmps)
    pure (if h:vs.size=1 then vs[0] else .tuple vs)):=by
   unfold results;congr 1
  rw[e,Array.mapM_eq_mapM_toList];simp[q1];rw[hr]at h;cases q2 with
  |nil=>simp at h;subst h;simp;exact .tup [] #[] rfl (by intro i x y hx;simp at hx)
  |cons h1 h2=>
   cases h2 with
   |nil=>simp at h;subst h;simpa using h1
   |cons h2 h3=>simp at h;subst h;simp;have hh:=aJ.cons h1 (.cons h2 h3);exact .tup _ _ (by simpa using hh.length) (λi x y hx hy=>hh.get i x y hx (by simpa using hy))
def aIn(P:Program)(num gnum:Nat->Nat)(ps:List Nat)(ca cb:C)(r:Loop):Prop:=
 r.params.toList=ps/\fitC P num gnum ca r.assign=true/\fitC P num gnum cb r.body=true/\jV ca=true/\jV cb=true
structure X1(P:Program)(num:Nm)(gnum:Nat->Nat)(pg:Pg):Prop where
 fs:∀f cf,pg.fs f=some cf->∃fn,P.funcs[num f]?=some fn/\fitF P num gnum cf fn=true
 ex:∀f g,pg.ex f=some g->gP P num pg.gl gnum ⟨λf' avs kb h=>if f'=f then g avs kb h else none,λ_ _ _ _=>none⟩
 lk:∀ps ca cb r,num.lk ps ca cb r↔aIn P num gnum ps ca cb r
theorem RW{F:Nat->Prop}{cf:CF}{fn:Func}{avs:List AV}{vs:List Value}(hv:aJ (Rv num ρ w F) avs vs)(hn:fn.ntmps=cf.nt) :
  pI num ρ w F (enter cf avs) {tmps:=vs.toArray++Array.replicate (fn.ntmps-vs.toArray.size) undef,defers:=[]}:=by
 have hl:=hv.length;refine⟨by simp[enter,hl,hn],?_,trivial⟩;intro t x y hx hy;simp only[enter]at hx;rcases Nat.lt_or_ge t avs.length with q|q;rw[List.getElem?_append_left q]at hx;rw[Array.getElem?_append_left (by simpa using (by omega:t<vs.length))]at hy;exact hv.get t x y hx (by simpa using hy);rw[u4 q]at hx;rw[Array.getElem?_append_right (by simpa using (by omega:vs.length<=t))]at hy;simp[List.getElem?_replicate]at hx;simp[Array.getElem?_replicate]at hy;obtain⟨_,rfl⟩:=hx;obtain⟨_,rfl⟩:=hy;exact .tup [] #[] rfl (by intro i x y hx;simp at hx)
theorem tX{fn:Func}{tmps:Array Value}{R:Ending->World->Prop}{Fb':Nat->Prop}{h:Hp}:∀{l:List Deferred}{w:World},HpR num Fb B0 ρ w O h->sC w (λb=>Fb' b\/O b) l ->
  (∀w',HpR num Fb B0 ρ w' O h->(∀b off,w'.cell? ⟨b,off,none⟩=w.cell? ⟨b,off,none⟩)->w.heap.size<=w'.heap.size->w'.os=w.os->w'.tape=w.tape->w'.output=w.output ->
   (∀b,(∀d∈l,d.target ≠ .collected b)->w'.heap[b]?=w.heap[b]?)->∃v,(results fn tmps).run P w' = .ok v w'/\R (.returned v) w') ->
  LeavesInM Fence.wide 0 P fn tmps R l .returning w
 |[],w,H,_,hK=>hK w H (λ_ _=>rfl) (Nat.le_refl _) rfl rfl rfl (λ_ _=>rfl)
 |d::l,w,H,⟨⟨D,h1,h2,h3,h4⟩,h5⟩,hK=>by
  refine⟨by simp,.inl ⟨D,w.putObj D (.deferred none),by rw[h1],run_takeDeferred h3,?_⟩⟩;refine tX (Fb':=Fb') (H.shut h3) ?_ ?_
  have:∀{l:List Deferred},(∀d'∈l,d'.target ≠ .collected D)->sC w (λb=>Fb' b\/O b) l->sC (w.putObj D (.deferred none)) (λb=>Fb' b\/O b) l:=by
   intro l
   induction l with
   |nil=>intro _ _;trivial
   |cons e l ih=>rintro hne ⟨⟨D',y1,y2,y3,y4⟩,y5⟩;refine⟨⟨D',y1,y2,?_,y4⟩,ih (λd' hd'=>hne d' (bT _ hd')) y5⟩;rw[World.putObj_heap_other];exact y3;intro e;subst e;exact hne _ List.mem_cons_self (by rw[y1])
  exact this h4 h5;intro w' H' g1 g2 g3 g4 g5 g6;refine hK w' H' (λb off=>(g1 b off).trans (D7 h3 b off)) (Nat.le_trans (by simp) g2) g3 g4 g5 ?_;intro b hb;rw[g6 b (λd' hd'=>hb d' (bT _ hd'))];exact World.putObj_heap_other (λe=>hb d List.mem_cons_self (by rw[h1,e]))
theorem W0(hm:P.follows .mixedOrders=true){pg:Pg}(hfit:X1 P num gnum pg)(n:Nat)(hn:lW P num pg.gl gnum (aX pg n)):gP P num pg.gl gnum (aX pg (n+1)):=by
  intro f avs kb h r h' hcall;simp only[aX]at hcall;split at hcall;split at hcall;rename_i g hg;exact hfit.ex f g hg f avs kb h r h' (by simp only[if_true];exact hcall);cases hcall;rename_i cf hcf;obtain⟨fn,hfn,hff⟩:=hfit.fs f cf hcf;unfold fitF at hff;split at hff
  case h_2=>cases hff
  rename_i code hbody;simp only[aD,beq_iff_eq,bne_iff_ne,ne_eq]at hff;obtain⟨⟨⟨f1,f2⟩,f3⟩,f4⟩:=hff;refine⟨⟨fn,hfn,by simp[hbody],f3⟩,?_⟩;intro Fb B0 ρ O w vs H hg hv;refine(callsIn_wide (n:=0)).1 (callsIn_of_wp_marks hfn hbody trivial ?_);show code.wpIn (FW none) 0 P _ _ _;have hG:gH num pg.gl gnum Fb B0 ρ w O ⟨enter cf avs,h⟩ {tmps:=vs.toArray++Array.replicate (fn.ntmps-vs.toArray.size) undef,defers:=[]} w:=
   ⟨ρ,O,Evo.refl _ _ _,H,hg,RW hv f2,λd hd=>by cases hd⟩
  have hpost:∀st,(result st cf.res).map (λv=>(v,st.hp))=some (r,h')->∀a' w',gH num pg.gl gnum Fb B0 ρ w O st a' w' ->
    LeavesInM Fence.wide 0 P fn a'.tmps (λe w'=>∃cv ρ' O',e = .returned cv/\Evo ρ w O ρ' w' O'/\HpR num Fb B0 ρ' w' O' h'/\Rv num ρ' w' (λb=>Fb b\/O' b) r cv) a'.defers .returning w':=by
   intro st hst a' w' ⟨ρ',O',g1,g2,g3,g4,g5⟩;cases hr:result st cf.res with
   |none=>simp[hr]at hst
   |some v=>
    simp[hr]at hst;obtain⟨rfl,rfl⟩:=hst;refine tX (Fb':=Fb) g2 g4.defers ?_;intro w2 H2 c1 c2 c3 c4 c5 c6
    have he2:pI num ρ' w2 (λb=>Fb b\/O' b) st.env {tmps:=a'.tmps,defers:=[]}:=
     ⟨g4.size,λt x y hx hy=>(g4.get t x y hx hy).world c1 c2,trivial⟩
    obtain⟨cv,q1,q2⟩:=E3 H2 he2 f4 hr;refine⟨cv,q1,cv,ρ',O',rfl,⟨c3.trans g1.os,c4.trans g1.tape,c5.trans g1.output,Nat.le_trans g1.size c2,λb hb hO=>?_,λb hb hO=>g1.own b hb hO,g1.rho⟩,H2,q2⟩;rw[c6 b (λd hd e=>by have:=g5 d hd b e;omega)];exact g1.keep b hb hO
  split at hcall;cases hcall;rename_i x st hne hex;refine sY hm hn (λps ca cb r h1 h2 h3 h4 h5=>(hfit.lk ps ca cb r).2 ⟨h1,h2,h3,h4,h5⟩) hex f1 (.inl rfl) hG ?_;intro a' w' hG';cases x with
  |nor=>exact hpost st hcall a' w' hG'
  |ext id=>exact(hne id rfl).elim
  |ret=>exact hpost st hcall a' w' hG'
  cases hcall
end
end
section
open Go.RowKit
section
variable{P:Program}{num:Nm}{gnum:Nat->Nat}
theorem yN{w:World}{l:Nat}{r r':Loop}(h:w.heap[l]?=some (.loop r)):fH w (w.putObj l (.loop r')) l (.loop r'):=
 have hlt:l<w.heap.size:=(lZ.1 h).1
 ⟨rfl,rfl,rfl,by simp,by simp[World.putObj,hlt],λk hk=>World.putObj_heap_other hk⟩
theorem WZ(hm:P.follows .mixedOrders=true){pg:Pg}(hfit:X1 P num gnum pg)(n:Nat)(hn:lW P num pg.gl gnum (aX pg n)):QA P num pg.gl gnum (aX pg (n+1)):=by
 intro k e avs h r h' hy Fb B0 ρ O w vs L H hg hv hL;have hlk:=λps ca cb r (h1:r.params.toList=ps) h2 h3 h4 h5=>(hfit.lk ps ca cb r).2 ⟨h1,h2,h3,h4,h5⟩
 have lkT:∀{ps:List Nat}{ca cb:C}{r r':Loop},r'.params=r.params->r'.assign=r.assign->r'.body=r.body->num.lk ps ca cb r->num.lk ps ca cb r':=λe1 e2 e3 q=>by obtain⟨a1,a2,a3,a4⟩:=(hfit.lk _ _ _ _).1 q;exact(hfit.lk _ _ _ _).2 ⟨by rw[e1];exact a1,by rw[e2];exact a2,by rw[e3];exact a3,a4⟩
 simp only[aX]at hy;unfold pQ at hy;split at hy
 case h_2=>cases hy
 rename_i e0 b env ps ca cb hget;split at hy
 case isFalse=>cases hy
 rename_i hcond;obtain⟨rfl,hps⟩:=hcond;split at hy
 case h_2=>cases hy
 rename_i st1 hex1;split at hy
 case h_2=>cases hy
 rename_i e1 b1 env1 ps1 ca1 cb1 hget1;split at hy
 case isFalse=>cases hy
 rename_i he1;subst he1;split at hy
 case h_2=>cases hy
 rename_i x st2 hex2;split at hy
 case h_2=>cases hy
 rename_i e2 b2 env2 ps2 ca2 cb2 hget2;split at hy
 case isFalse=>cases hy
 rename_i he2;subst he2;cases hy;obtain⟨L0,r0,q1,q2,q3,q4,q5,q6,q7,q8⟩:=H.lpo _ _ _ _ _ _ _ _ hget;rw[q1]at hL;cases hL;obtain⟨k1,k2,k3,k4,k5⟩:=(hfit.lk _ _ _ _).1 q3;have hsz:vs.toArray.size=r0.params.size:=by
  have h1:=hv.length;have h2:r0.params.size=ps.length:=by rw[<-k1];simp
  simp;omega
 refine⟨r0.fn,_,r0.assign,r0.body,run_yield q2 hsz,?_⟩;obtain⟨s1,s2⟩:=CB (ps:=ps) (env:=env) (tmps:=r0.tmps) hv q5 q6 hps
 have hz:(r0.params.zip vs.toArray).foldl (λtmps (t,a)=>tmps.setIfInBounds t a) r0.tmps=(ps.zip vs).foldl (λt (p:Nat×Value)=>t.setIfInBounds p.1 p.2) r0.tmps:=by rw[<-k1,<-Array.foldl_toList,Array.toList_zip]
 refine roundIn_of_wpIn (F:=Fence.wide) trivial ?_;rw[hz];show r0.assign.wpIn (FW (some L.b)) 0 P _ _ w;refine sY (ρ0 := ρ) (w0:=w) (O0:=O) (Fb:=Fb) (B0:=B0) hm hn hlk hex1 k2 (.inr k4) ⟨ρ,O,Evo.refl _ _ _,H,hg,⟨s1,s2,trivial⟩,λd hd=>by cases hd⟩ ?_;intro a1 w1 ⟨ρ1,O1,ev1,H1,hg1,he1,_⟩;obtain⟨L1,r1,p1,p2,p3,p4,_⟩:=H1.lpo _ _ _ _ _ _ _ _ hget1;obtain rfl:L1=L:=by have:=ev1.rho _ _ _ q1;rw[p1]at this;exact Option.some.inj this
 have hready:r1.state = .ready/\r1.pending=none:=by
  rcases p4 with ⟨_,y⟩|⟨y,_⟩|⟨y,_⟩|⟨i,y,_⟩
  exact y;cases y;cases y;omega
 obtain⟨ev2,H2⟩:=H1.turnLp (st':=1) (bb':=b1) (r':={r1 with state:=.busy}) hget1 p1 p2 (yN p2) rfl (lkT rfl rfl rfl) (.inr (.inl ⟨rfl,rfl,hready.2⟩));refine⟨_,run_beginRound p2 hready.1,?_⟩;show r0.body.wpIn (FW (some L1.b)) 0 P _ _ _
 refine sY (ρ0 := ρ) (w0:=w) (O0:=O) (Fb:=Fb) (B0:=B0) hm hn hlk hex2 k3 (.inr k5) ⟨ρ1,O1,ev1.trans ev2,H2,hg1.evo ev2,he1.evo ev2,λd hd D hD=>by
  have hmk:=(‹∀d∈a1.defers,_› : ∀d∈a1.defers,∀D,d.target = .collected D->w.heap.size<=D)
  exact hmk d hd D hD⟩ ?_
 intro a2 w2 ⟨ρ2,O2,ev3,H3,hg3,he3,_⟩;obtain⟨L2,r2,z1,z2,z3,z4,_⟩:=H3.lpo _ _ _ _ _ _ _ _ hget2;obtain rfl:L2=L1:=by have:=ev3.rho _ _ _ q1;rw[z1]at this;exact Option.some.inj this
 have hturn:∀(jump:Option Code)(st':Nat),UJ st' {r2 with state:=if jump.isNone then .ready else .done,pending:=jump} ->
   Evo ρ2 w2 O2 ρ2 (w2.putObj L2.b (.loop {r2 with state:=if jump.isNone then .ready else .done,pending:=jump})) O2 /\
   HpR num Fb B0 ρ2 (w2.putObj L2.b (.loop {r2 with state:=if jump.isNone then .ready else .done,pending:=jump})) O2 (st2.hp.put k e2 (.lp st' b2 env2 ps2 ca2 cb2)):=
  λjump st' hst=>H3.turnLp hget2 z1 z2 (yN z2) rfl (lkT rfl rfl rfl) hst
 cases x with
 |nor=>obtain⟨ev4,H4⟩:=hturn none 0 (.inl ⟨rfl,rfl,rfl⟩);exact⟨_,_,run_endRound none z2,_,ρ2,O2,rfl,ev3.trans ev4,H4,.bool _⟩
 |ret=>obtain⟨ev4,H4⟩:=hturn (some .ret) 3 (.inr (.inr (.inl ⟨rfl,rfl,rfl⟩)));exact⟨_,_,run_endRound (some .ret) z2,_,ρ2,O2,rfl,ev3.trans ev4,H4,.bool _⟩
 |ext i=>obtain⟨ev4,H4⟩:=hturn (some (.exit i)) (i+4) (.inr (.inr (.inr ⟨i,by omega,rfl,rfl⟩)));exact⟨_,_,run_endRound (some (.exit i)) z2,_,ρ2,O2,rfl,ev3.trans ev4,H4,.bool _⟩
theorem qI(hm:P.follows .mixedOrders=true){pg:Pg}(hfit:X1 P num gnum pg):∀n,lW P num pg.gl gnum (aX pg n)
 |0=>⟨by intro f avs kb h r h' hcall;simp[aX]at hcall,by intro k e avs h r h' hy;simp[aX]at hy⟩
 |n+1=>⟨W0 hm hfit n (qI hm hfit n),WZ hm hfit n (qI hm hfit n)⟩
end
end
section
inductive BT(α : Type) where
 |e
 |n (k:Nat) (v : α) (l r:BT α)
def BT.find{α : Type}(x:Nat):BT α -> Option α
 |.e=>none
 |.n k v l r=>bif x.blt k then l.find x else bif k.blt x then r.find x else some v
def BT.All{α : Type}(p:Nat -> α -> Prop):BT α -> Prop
 |.e=>True
 |.n k v l r=>p k v/\l.All p/\r.All p
theorem BT.All.find{α : Type}{p:Nat -> α -> Prop}{x:Nat}{v : α}:∀{t:BT α},t.All p->t.find x=some v->p x v
 |.e,_,h=>by simp[BT.find]at h
 |.n k u l r,ha,h=>by
  obtain⟨h1,h2,h3⟩:=ha;simp only[BT.find,cond_eq_ite]at h;split at h;exact BT.All.find h2 h;rename_i q1;split at h;exact BT.All.find h3 h;rename_i q2;cases h;have:k=x:=by simp only[Nat.blt_eq]at q1 q2;omega
  subst this;exact h1
def aIp(P:Program)(num gnum:Nat->Nat)(f:Nat)(cf:CF):Prop:=∃fn,P.funcs[num f]?=some fn/\fitF P num gnum cf fn=true
theorem fitP_of{P:Program}{num:Nm}{gnum:Nat->Nat}{t:BT CF}{gl:Nat->Option AV}{ex:Nat->Option (List AV->Nat->Hp->Option (AV×Hp))}(h:t.All (aIp P num gnum))
  (hx:∀f g,ex f=some g->gP P num gl gnum ⟨λf' avs kb h=>if f'=f then g avs kb h else none,λ_ _ _ _=>none⟩) (hl:∀ps ca cb r,num.lk ps ca cb r↔aIn P num gnum ps ca cb r):X1 P num gnum ⟨λf=>t.find f,gl,ex⟩:=
 ⟨λ_ _ hq=>BT.All.find h hq,hx,hl⟩
def aQj(P:Program)(num gnum:Nat->Nat):Nm:=⟨num,aIn P num gnum⟩
def aIV(t:BT Nat)(f:Nat):Nat:=(t.find f).getD 1000000
abbrev Z:AV:=.top
abbrev Y:Bool:=true
abbrev N:Bool:=false
abbrev i0:AV:=.int .i64 0
abbrev i1:AV:=.int .i64 1
abbrev bN:AV:=.bool false
abbrev bY:AV:=.bool true
abbrev sN:AV:=.sl true [] true
end
end Go.Tev
