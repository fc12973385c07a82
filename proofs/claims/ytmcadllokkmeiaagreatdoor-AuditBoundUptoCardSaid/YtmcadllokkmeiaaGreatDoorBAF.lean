import Derived.Test.YtmcadllokkmeiaaGreatDoorBAE
import Derived.OrdersIn
set_option linter.all false
namespace Go.Tev
section
open Go.RowKit
def lL(num:Nm)(gl:Nat->Option AV)(bE:Nat->Nat)(ρ : Rho)(w:World)(F:Nat->Prop):Prop:=
 ∀g v,gl g=some v->(v.tree=true/\∃c T fr,w.heap[bE g]?=some (.cells c T fr)/\c.size=v.cells.length)/\Rv num ρ w F (.fp v) (.pointer (some ⟨bE g,0,none⟩))
def j8(P:Program)(num:Nm)(gl:Nat->Option AV)(bE:Nat->Nat)(call:cG):Prop:=
 ∀f avs kb h r h',call f avs kb h=some (r,h') ->
  (∃fn,P.funcs[num f]?=some fn/\fn.body.isSome=true/\fn.name ≠ "runtime.NumGoroutine") /\
  ∀(Fb:Nat->Prop)(B0:Nat)(ρ : Rho)(O:Nat->Prop)(w:World)(vs:List Value),HpR num Fb B0 ρ w O h->lL num gl bE ρ w (λb=>Fb b\/O b) ->
   bA (Rv num ρ w (λb=>Fb b\/O b)) avs vs ->
   Calls P (num f) vs.toArray w λe w'=>∃cv ρ' O',e = .returned cv/\Evo ρ w O ρ' w' O'/\HpR num Fb B0 ρ' w' O' h'/\Rv num ρ' w' (λb=>Fb b\/O' b) r cv
section
variable{P:Program}{num:Nm}{gl:Nat->Option AV}{bE:Nat->Nat}{call:cG}{Fb:Nat->Prop}{B0:Nat}{ρ : Rho}{w:World}{O:Nat->Prop}{h:Hp}
theorem HpR.start(Fb:Nat->Prop)(w:World)(hF:∀b,Fb b->b<w.heap.size):HpR num Fb w.heap.size (λ_ _=>none) w (λ_=>False) [] where
 blk:=by intro k e cs esz ag ti fz hg;simp[Hp.get]at hg
 mpo:=by intro k e es bs ck hg;simp[Hp.get]at hg
 ito:=by intro k e mk me since seen last hg;simp[Hp.get]at hg
 lpo:=by intro k e st b env ps ca cb hg;simp[Hp.get]at hg
 inj:=by intro k k' e e' o o' L L' hg;simp[Hp.get]at hg
 ep:=by intro k e L hL;cases hL
 own:=by intro b hb;exact hb.elim
 fbl:=hF
 le:=aX _
theorem DR(hc:j8 P num gl bE call){f:Nat}{ts:List AV}{r:AV}(h1:dS call f ts=some r){vs:List Value}(hF:∀b,Fb b->b<w.heap.size)(hg:lL num gl bE (λ_ _=>none) w Fb)
  (hv:bA (Rv num (λ_ _=>none) w Fb) ts vs) :
  (∃fn,P.funcs[num f]?=some fn/\fn.body.isSome=true/\fn.name ≠ "runtime.NumGoroutine") /\
  Calls P (num f) vs.toArray w λe w'=>∃cv,e = .returned cv/\Evo (λ_ _=>none) w (λ_=>False) (λ_ _=>none) w' (λ_=>False)/\HR num Fb w.heap.size w' r cv:=by
 unfold dS at h1;split at h1
 case h_2=>cases h1
 rename_i r' h' hcall;obtain⟨a1,a2⟩:=hc _ _ _ _ _ _ hcall;refine⟨a1,?_⟩
 refine(a2 Fb w.heap.size (λ_ _=>none) (λ_=>False) w vs (HpR.start Fb w hF) (λg v q=>⟨(hg g v q).1,(hg g v q).2.F_mono (λb hb=>hb.elim id False.elim)⟩)
  (hv.imp (λa b hab=>hab.F_mono (λb hb=>hb.elim id False.elim)))).mono ?_
 rintro e w' ⟨cv,ρ',O',rfl,ev,H',hr⟩;refine⟨cv,rfl,⟨ev.os,ev.tape,ev.output,ev.size,ev.keep,λb hb q=>q,λk e L q=>by cases q⟩,U2 H' hr h1⟩
theorem HpR.ext{h2:Hp}(H:HpR num Fb B0 ρ w O h)(he:∀k,h2.get k=h.get k):HpR num Fb B0 ρ w O h2 where
 blk:=λk e cs esz ag ti fz hg=>H.blk k e cs esz ag ti fz (by rw[<-he];exact hg)
 mpo:=λk e es bs ck hg=>H.mpo k e es bs ck (by rw[<-he];exact hg)
 ito:=λk e mk me since seen last hg=>H.ito k e mk me since seen last (by rw[<-he];exact hg)
 lpo:=λk e st b env ps ca cb hg=>H.lpo k e st b env ps ca cb (by rw[<-he];exact hg)
 inj:=λk k' e e' o o' L L' g1 g2=>H.inj k k' e e' o o' L L' (by rw[<-he];exact g1) (by rw[<-he];exact g2)
 ep:=λk e L hL=>by obtain⟨e',o,q1,q2⟩:=H.ep k e L hL;exact⟨e',o,by rw[he];exact q1,q2⟩
 own:=H.own
 fbl:=H.fbl
 le:=H.le
theorem xK:∀{h:Hp}{k:Nat}{p:Nat×Ob},h.get k=some p->∃x∈h,x.k=k
 |[],_,_,hg=>by simp[Hp.get]at hg
 |x::r,k,p,hg=>by simp only[Hp.get]at hg;split at hg;rename_i e;exact⟨x,by simp,e⟩;obtain⟨y,h1,h2⟩:=xK hg;exact⟨y,dY _ h1,h2⟩
theorem A5(hc:j8 P num gl bE call)(H:HpR num Fb B0 ρ w O h)(hg:lL num gl bE ρ w (λb=>Fb b\/O b)){kb s f:Nat}{avs:List AV}{v:AV}{eff:Eff}
  (h1:oH call kb s h f avs=some (v,eff)) {vs:List Value} (hv:bA (Rv num ρ w (λb=>Fb b\/O b)) avs vs) :
  (∃fn,P.funcs[num f]?=some fn/\fn.body.isSome=true/\fn.name ≠ "runtime.NumGoroutine") /\
  Calls P (num f) vs.toArray w λe w'=>∃cv ρ' O',e = .returned cv/\Evo ρ w O ρ' w' O'/\HpR num Fb B0 ρ' w' O' (eff.app h)/\Rv num ρ' w' (λb=>Fb b\/O' b) v cv:=by
 unfold oH at h1;split at h1
 case h_2=>cases h1
 rename_i r h' hcall;dsimp only at h1;split at h1
 case isFalse=>cases h1
 rename_i hchk;cases h1;obtain⟨a1,a2⟩:=hc _ _ _ _ _ _ hcall;refine⟨a1,(a2 Fb B0 ρ O w vs H hg hv).mono ?_⟩;rintro e w' ⟨cv,ρ',O',rfl,q1,q2,q3⟩;refine⟨cv,ρ',O',rfl,q1,q2.ext (λk=>?_),q3⟩;simp only[Eff.app];rw[eT]at hchk;by_cases hk:∃x∈h++h',x.k=k;obtain⟨x,hx,rfl⟩:=hk;exact DF (hchk x hx);have n1:h.get k=none:=by
  cases hq:h.get k with
  |none=>rfl
  |some p=>obtain⟨x,hx,hxk⟩:=xK hq;exact absurd ⟨x,List.mem_append_left _ hx,hxk⟩ hk
 have n2:h'.get k=none:=by
  cases hq:h'.get k with
  |none=>rfl
  |some p=>obtain⟨x,hx,hxk⟩:=xK hq;exact absurd ⟨x,List.mem_append_right _ hx,hxk⟩ hk
 rw[n2,vQ,n1];intro hm;obtain⟨x,hx,hxk⟩:=List.mem_map.1 hm;exact hk ⟨x,List.mem_append_right _ (List.mem_filter.1 hx).1,hxk⟩
theorem jS:∀{h0:Hp}{h:Hp}(k:Nat),kG h0=true->(dZ h h0).get k=match h0.get k with|some p=>some p|none=>h.get k
 |[],h,k,_=>rfl
 |x::r,h,k,hn=>by
  simp only[kG,aF]at hn;simp only[dZ];rw[jS k hn.2];simp only[Hp.get,aI];by_cases hk:x.k=k;subst hk;have:Hp.get r x.k=none:=by
   cases hq:Hp.get r x.k with
   |none=>rfl
   |some p=>obtain⟨y,hy,hyk⟩:=xK hq;have:=eT.1 hn.1 y hy;simp[hyk]at this
  rw[this];simp;simp[hk]
theorem X7{f:Nat}{vs:List AV}:∀{n b:Nat}{r:AV}{rd:List Nat}{pa:List Ent},rV call h f vs n b=some (r,rd,pa)->∃b',call f vs b' []=some (r,pa)/\kG pa=true/\∀x∈pa,h.get x.k=none
 |0,_,_,_,_,h1=>by simp[rV]at h1
 |n+1,b,r,rd,pa,h1=>by
  unfold rV at h1;cases hc:call f vs b [] with
  |none=>simp[hc]at h1
  |some q=>
   obtain⟨r0,h0⟩:=q;simp only[hc]at h1;split at h1;rename_i hh;simp only[aF,eT,Option.isNone_iff_eq_none]at hh;cases h1;exact⟨b,hc,hh.1,hh.2⟩;split at h1
   case h_2=>cases h1
   rename_i r' rd' pa' ht;cases h1;exact X7 ht
theorem HpR.loc_ge{k e:Nat}{o:Ob}{L:Loc}(H:HpR num Fb B0 ρ w O h)(hg:h.get k=some (e,o))(hl:o.live=true)(hL : ρ k e=some L):B0<=L.b:=by
 cases o with
 |dead=>cases hl
 |blk cs esz ag ti fz=>obtain⟨L',_,_,q1,_,_,_,_,_,_,q8,_⟩:=H.blk _ _ _ _ _ _ _ hg;rw[q1]at hL;cases hL;exact q8
 |mpo es=>obtain⟨L',_,_,q1,_,_,_,q8,_⟩:=H.mpo _ _ _ _ _ hg;rw[q1]at hL;cases hL;exact q8
 |itr=>obtain⟨L',_,q1,_,_,_,q8,_⟩:=H.ito _ _ _ _ _ _ _ hg;rw[q1]at hL;cases hL;exact q8
 |lp st b env ps ca cb=>obtain⟨L',_,q1,_,_,_,_,_,q8,_⟩:=H.lpo _ _ _ _ _ _ _ _ hg;rw[q1]at hL;cases hL;exact q8
theorem HpR.union{h0:Hp}{ρ1:Rho}{w':World}{O1:Nat->Prop}(H:HpR num Fb B0 ρ w O h)(ev:Evo (λ_ _=>none) w (λ_=>False) ρ1 w' O1)(H1:HpR num (λb=>Fb b\/O b) w.heap.size ρ1 w' O1 h0)
  (hn:kG h0=true) (hf:∀x∈h0,h.get x.k=none) :
  ∃ ρ2,Evo ρ w O ρ2 w' (λb=>O b\/O1 b)/\HpR num Fb B0 ρ2 w' (λb=>O b\/O1 b) (dZ h h0)/\∀v c,Rv num ρ1 w' (λb=>(Fb b\/O b)\/O1 b) v c->Rv num ρ2 w' (λb=>Fb b\/(O b\/O1 b)) v c:=by
 let ρ2:Rho:=λk e=>match h0.get k with|some _ => ρ1 k e|none => ρ k e
 have hnone:∀k p,h.get k=some p->h0.get k=none:=by
  intro k p hk;cases hq:h0.get k with
  |none=>rfl
  |some q=>obtain⟨x,hx,rfl⟩:=xK hq;rw[hf x hx]at hk;cases hk
 have hA:∀k e L,ρ k e=some L -> ρ2 k e=some L:=by intro k e L hL;obtain⟨e',o,q1,_⟩:=H.ep k e L hL;simp only[ρ2,hnone k _ q1,hL]
 have hB:∀k e L,ρ1 k e=some L -> ρ2 k e=some L:=by intro k e L hL;obtain⟨e',o,q1,_⟩:=H1.ep k e L hL;simp only[ρ2,q1,hL]
 have hO1:∀b,O1 b->w.heap.size<=b:=λb hb=>(H1.own b hb).1
 have EV:Evo ρ w O ρ2 w' (λb=>O b\/O1 b):=
  ⟨ev.os,ev.tape,ev.output,ev.size,λb hb _=>ev.keep b hb (λq=>q),λb hb hO=>hO.elim id (λq=>by have:=hO1 b q;omega),hA⟩
 have hR:∀v c,Rv num ρ1 w' (λb=>(Fb b\/O b)\/O1 b) v c->Rv num ρ2 w' (λb=>Fb b\/(O b\/O1 b)) v c:=by intro v c hv;have:=hv.evo (ρ' := ρ2) (w':=w') (O':=O1) ⟨rfl,rfl,rfl,aX _,λ_ _ _=>rfl,λ_ _ q=>q,hB⟩;exact this.F_mono (λb hb=>by rcases hb with q|q|q<;>simp[q])
 have hget:∀k p,(dZ h h0).get k=some p->(h0.get k=some p)\/(h0.get k=none/\h.get k=some p):=by intro k p hk;rw[jS k hn]at hk;split at hk;rename_i q hq;rw[<-hk];exact .inl hq;rename_i hq;exact .inr ⟨hq,hk⟩
 refine⟨ρ2,EV,?_,hR⟩;refine {blk:=?_,mpo:=?_,lpo:=?_,ito:=?_,inj:=?_,ep:=?_,own:=?_,fbl:=H.fbl,le:=Nat.le_trans H.le ev.size};intro k e cs esz ag ti fz hk;rcases hget k _ hk with hk|⟨hn0,hk⟩
 obtain⟨L,c,T,q1,q2,q3,q4,q5,q6,q7,q8,q9,q10⟩:=H1.blk _ _ _ _ _ _ _ hk;refine⟨L,c,T,hB _ _ _ q1,q2,q3,q4,q5,q6,λi x hx=>?_,by have:=H.le;omega,λz => .inr (q9 z),λz hO=>?_⟩;obtain⟨y,y1,y2⟩:=q7 i x hx;exact⟨y,y1,hR _ _ y2⟩;rcases hO with hO|hO;have:=(H.own _ hO).2;omega;exact q10 z hO;obtain⟨L,c,T,q1,q2,q3,q4,q5,q6,q7,q8,q9,q10⟩:=H.blk _ _ _ _ _ _ _ hk;have hlt:=H.loc_lt hk (by intro e;cases e) q1;refine⟨L,c,T,hA _ _ _ q1,q2,q3,(ev.keep _ hlt (λq=>q)).trans q4,q5,q6,λi x hx=>?_,q8,λz => .inl (q9 z),λz hO=>?_⟩;obtain⟨y,y1,y2⟩:=q7 i x hx;exact⟨y,y1,y2.evo EV⟩;rcases hO with hO|hO;exact q10 z hO;have:=hO1 _ hO;omega;intro k e es bs ck hk;rcases hget k _ hk with hk|⟨hn0,hk⟩
 obtain⟨L,c,clock,q1,q2,q3,q4,q5,q6⟩:=H1.mpo _ _ _ _ _ hk;refine⟨L,c,clock,hB _ _ _ q1,q2,q3,λi x y hx hy=>?_,by have:=H.le;omega,.inr q6⟩;obtain⟨z1,z2,z3,z4⟩:=q4 i x y hx hy;exact⟨hR _ _ z1,hR _ _ z2,z3,z4⟩;obtain⟨L,c,clock,q1,q2,q3,q4,q5,q6⟩:=H.mpo _ _ _ _ _ hk;have hlt:=H.loc_lt hk (by intro e;cases e) q1;refine⟨L,c,clock,hA _ _ _ q1,(ev.keep _ hlt (λq=>q)).trans q2,q3,λi x y hx hy=>?_,q5,.inl q6⟩;obtain⟨z1,z2,z3,z4⟩:=q4 i x y hx hy;exact⟨z1.evo EV,z2.evo EV,z3,z4⟩;intro k e st b env ps ca cb hk;rcases hget k _ hk with hk|⟨hn0,hk⟩
 obtain⟨L,r,q1,q2,q3,q4,q5,q6,q7,q8⟩:=H1.lpo _ _ _ _ _ _ _ _ hk;exact⟨L,r,hB _ _ _ q1,q2,q3,q4,q5,λi x y hx hy=>hR _ _ (q6 i x y hx hy),by have:=H.le;omega,.inr q8⟩;obtain⟨L,r,q1,q2,q3,q4,q5,q6,q7,q8⟩:=H.lpo _ _ _ _ _ _ _ _ hk;have hlt:=H.loc_lt hk (by intro e;cases e) q1;exact⟨L,r,hA _ _ _ q1,(ev.keep _ hlt (λq=>q)).trans q2,q3,q4,q5,λi x y hx hy=>(q6 i x y hx hy).evo EV,q7,.inl q8⟩;intro k e mk me since seen last hk;rcases hget k _ hk with hk|⟨hn0,hk⟩
 obtain⟨L,Lm,q1,q2,q3,q4,q5,q6⟩:=H1.ito _ _ _ _ _ _ _ hk;exact⟨L,Lm,hB _ _ _ q1,hB _ _ _ q2,q3,q4,by have:=H.le;omega,.inr q6⟩;obtain⟨L,Lm,q1,q2,q3,q4,q5,q6⟩:=H.ito _ _ _ _ _ _ _ hk;have hlt:=H.loc_lt hk (by intro e;cases e) q1;exact⟨L,Lm,hA _ _ _ q1,hA _ _ _ q2,(ev.keep _ hlt (λq=>q)).trans q3,q4,q5,.inl q6⟩;intro k k' e e' o o' L L' g1 g2 l1 l2 r1 r2 hb;rcases hget k _ g1 with g1|⟨n1,g1⟩<;>rcases hget k' _ g2 with g2|⟨n2,g2⟩
 simp only[ρ2,g1]at r1;simp only[ρ2,g2]at r2;exact H1.inj k k' e e' o o' L L' g1 g2 l1 l2 r1 r2 hb;simp only[ρ2,g1]at r1;simp only[ρ2,n2]at r2;have h1:=H1.loc_ge g1 l1 r1;have h2:=H.loc_lt g2 (by intro e;subst e;cases l2) r2;omega;simp only[ρ2,n1]at r1;simp only[ρ2,g2]at r2;have h1:=H1.loc_ge g2 l2 r2;have h2:=H.loc_lt g1 (by intro e;subst e;cases l1) r1;omega;simp only[ρ2,n1]at r1;simp only[ρ2,n2]at r2;exact H.inj k k' e e' o o' L L' g1 g2 l1 l2 r1 r2 hb;intro k e L hL;cases hq:h0.get k with
 |some p=>simp only[ρ2,hq]at hL;obtain⟨e',o,q1,q2⟩:=H1.ep k e L hL;exact⟨e',o,by rw[jS k hn,q1],q2⟩
 |none=>simp only[ρ2,hq]at hL;obtain⟨e',o,q1,q2⟩:=H.ep k e L hL;exact⟨e',o,by rw[jS k hn,hq];exact q1,q2⟩
 intro b hb;rcases hb with hb|hb;exact⟨(H.own b hb).1,Nat.lt_of_lt_of_le (H.own b hb).2 ev.size⟩;have:=H.le;exact⟨by have:=(H1.own b hb).1;omega,(H1.own b hb).2⟩
theorem IC:∀{l:List AV},treeL l=true->∀x∈l,x.tree=true
 |[],_,_,hx=>by cases hx
 |y::r,h,x,hx=>by simp only[treeL,aF]at h;rcases dA.1 hx with rfl|hx;exact h.1;exact IC h.2 x hx
theorem N8(hc:j8 P num gl bE call)(H:HpR num Fb B0 ρ w O h)(hg:lL num gl bE ρ w (λb=>Fb b\/O b)){kb s f:Nat}{avs:List AV}{v:AV}{eff:Eff}
  (h1:pF call kb s h f avs=some (v,eff)) {vs:List Value} (hv:bA (Rv num ρ w (λb=>Fb b\/O b)) avs vs) :
  (∃fn,P.funcs[num f]?=some fn/\fn.body.isSome=true/\fn.name ≠ "runtime.NumGoroutine") /\
  Calls P (num f) vs.toArray w λe w'=>∃cv ρ' O',e = .returned cv/\Evo ρ w O ρ' w' O'/\HpR num Fb B0 ρ' w' O' (eff.app h)/\Rv num ρ' w' (λb=>Fb b\/O' b) v cv:=by
 unfold pF at h1;split at h1
 case isFalse=>cases h1
 rename_i htr;split at h1
 case h_2=>cases h1
 rename_i r rd pa ht;cases h1;obtain⟨b',hcall,hn,hf⟩:=X7 ht;obtain⟨a1,a2⟩:=hc _ _ _ _ _ _ hcall;have hF:∀b,(Fb b\/O b)->b<w.heap.size:=by intro b hb;rcases hb with q|q;have:=H.fbl _ q;have:=H.le;omega;exact(H.own _ q).2
 have hargs:bA (Rv num (λ_ _=>none) w (λb=>(Fb b\/O b)\/False)) avs vs:=by refine bA.of_get hv.length ?_;intro i x y hx hy;exact(hv.get i x y hx hy).tree_mono (IC htr x (List.mem_of_getElem? hx)) (λb hb=>hb.elim id False.elim)
 have hgl:lL num gl bE (λ_ _=>none) w (λb=>(Fb b\/O b)\/False):=by intro g u hu;obtain⟨t1,t2⟩:=hg g u hu;exact⟨t1,t2.tree_mono (by simpa[AV.tree] using t1.1) (λb hb=>hb.elim id False.elim)⟩
 refine⟨a1,(a2 (λb=>Fb b\/O b) w.heap.size (λ_ _=>none) (λ_=>False) w vs (HpR.start _ w hF) hgl hargs).mono ?_⟩;rintro e w' ⟨cv,ρ1,O1,rfl,ev,H1,hr⟩;obtain⟨ρ2,q1,q2,q3⟩:=H.union ev H1 hn hf;exact⟨cv,ρ2,_,rfl,q1,q2,q3 _ _ hr⟩
theorem SM(hc:j8 P num gl bE call)(H:HpR num Fb B0 ρ w O h)(hg:lL num gl bE ρ w (λb=>Fb b\/O b)){kb s f:Nat}{th im:Bool}{avs:List AV}{v:AV}{eff:Eff}
  (h1:pL call kb s h f th im avs=some (v,eff)) {vs:List Value} (hv:bA (Rv num ρ w (λb=>Fb b\/O b)) avs vs) :
  (∃fn,P.funcs[num f]?=some fn/\fn.body.isSome=true/\fn.name ≠ "runtime.NumGoroutine") /\
  Calls P (num f) vs.toArray w λe w'=>∃cv ρ' O',e = .returned cv/\Evo ρ w O ρ' w' O'/\HpR num Fb B0 ρ' w' O' (eff.app h)/\Rv num ρ' w' (λb=>Fb b\/O' b) v cv:=by
 unfold pL at h1;split at h1;rename_i ts keys hm;cases im with
 |true=>simp at hm
 |false=>
  simp at hm;split at h1
  case h_2=>cases h1
  rename_i r hr;split at h1
  case h_2=>cases h1
  rename_i v' pa hrec;cases h1;obtain⟨m1,m2⟩:=lQ hm
  let Fb':Nat->Prop:=λb=>(Fb b\/O b)/\¬SB ρ h keys b
  have hlt:∀b,Fb' b->b<w.heap.size:=by intro b hb;rcases hb.1 with q|q;have:=H.fbl _ q;have:=H.le;omega;exact(H.own _ q).2
  have hargs:bA (Rv num (λ_ _=>none) w Fb') ts vs:=by
   refine bA.of_get (by have:=hv.length;omega) ?_;intro i x y hx hy;have hi:i<avs.length:=by have:=(cJ.1 hx).1;omega
   obtain⟨x',s',p1,p2,p3⟩:=m2 i avs[i] (by simp[hi]);rw[hx]at p1;cases p1
   exact jB H (F':=Fb') (λb hb=>hb.1) depth _ _ _ _ p2 (hv.get i _ y (by simp[hi]) hy) (λb hb hF=>hF.2 (by
    obtain⟨k,e,o,L,q1,q2⟩:=hb;exact⟨k,e,o,L,p3 k q1,q2⟩))
  have hgl:lL num gl bE (λ_ _=>none) w Fb':=by intro g u hu;obtain⟨t1,t2⟩:=hg g u hu;exact⟨t1,t2.tree_mono (by simpa[AV.tree] using t1.1) (λb hb=>hb.1)⟩
  obtain⟨a1,a2⟩:=DR (Fb:=Fb') hc hr hlt hgl hargs;refine⟨a1,a2.mono ?_⟩;rintro e w' ⟨cv,rfl,ev,hres⟩;obtain⟨ρ',O',e1,e2,e3⟩:=HT (Fb':=Fb') (S:=keys) H ev (λb hb hnb=>⟨hb,hnb⟩) hres hrec;exact⟨cv,ρ',O',rfl,e1,e2,e3⟩
 split at h1
 case h_2=>cases h1
 rename_i r h' hcall;cases h1;obtain⟨a1,a2⟩:=hc _ _ _ _ _ _ hcall;exact⟨a1,a2 Fb B0 ρ O w vs H hg hv⟩
end
def fitXs(num bE:Nat->Nat):List X->List Operand->Bool
 |[],[]=>true
 |x::r,o::s=>fitX num bE x o&&fitXs num bE r s
 |_,_=>false
def fitR(P:Program)(num bE:Nat->Nat)(ops:Array Oper)(o:Oper)(r:R):Bool:=
 r.d==o.dst&&(match fitK P num o r.k with|some l=>fitXs num bE r.xs l|none=>false) &&
 (match o.guard,r.gd with
  |none,none=>true
  |some (j,b),some (t,c)=>b==c&&(ops[j]?).bind (·.dst)==some t
  |_,_=>false)
def x9(w:World)(F:Nat->Prop):List Deferred->Prop
 |[]=>True
 |d::r=>(∃D,d={target:=.collected D,args := #[]}/\¬F D/\w.heap[D]?=some (.deferred (some []))/\∀d'∈r,d'.target ≠ .collected D)/\x9 w F r
theorem x9.evo{num:Nm}{Fb O O':Nat->Prop}{ρ ρ':Rho}{w w':World}(ev:Evo ρ w O ρ' w' O'):∀{l:List Deferred},x9 w (λb=>Fb b\/O b) l->x9 w' (λb=>Fb b\/O' b) l
 |[],_=>trivial
 |d::r,⟨⟨D,h1,h2,h3,h4⟩,h5⟩=>by
  have hb:D<w.heap.size:=by by_cases hlt:D<w.heap.size;exact hlt;simp[Array.getElem?_eq_none (Nat.le_of_not_lt hlt)]at h3
  exact⟨⟨D,h1,λh=>h2 (h.imp id (ev.own D hb)),(ev.keep D hb (λh=>h2 (.inr h))).trans h3,h4⟩,x9.evo (num:=num) ev h5⟩
structure vF(num:Nm)(ρ : Rho)(w:World)(F:Nat->Prop)(env:List AV)(a:Act):Prop where
 size:env.length=a.tmps.size
 get:∀(t:Nat)(x:AV)(y:Value),env[t]?=some x->a.tmps[t]?=some y->Rv num ρ w F x y
 defers:x9 w F a.defers
def lW(num:Nm)(gl:Nat->Option AV)(bE:Nat->Nat)(Fb:Nat->Prop)(B0:Nat)(ρ0:Rho)(w0:World)(O0:Nat->Prop)(st:St)(a:Act)(w:World):Prop:=
 ∃ ρ O,Evo ρ0 w0 O0 ρ w O/\HpR num Fb B0 ρ w O st.hp/\lL num gl bE ρ w (λb=>Fb b\/O b)/\vF num ρ w (λb=>Fb b\/O b) st.env a/\∀d∈a.defers,∀D,d.target = .collected D->w0.heap.size<=D
section
variable{P:Program}{num:Nm}{gl:Nat->Option AV}{bE:Nat->Nat}{call:cG}{Fb:Nat->Prop}{B0:Nat}{ρ ρ0:Rho}{w w0:World}{O O0:Nat->Prop}{h:Hp}
theorem lL.evo{ρ':Rho}{w':World}{O':Nat->Prop}(hg:lL num gl bE ρ w (λb=>Fb b\/O b))(ev:Evo ρ w O ρ' w' O'):lL num gl bE ρ' w' (λb=>Fb b\/O' b):=
 λg v q=>⟨⟨(hg g v q).1.1,by
  obtain⟨c,T,fr,h1,h2⟩:=(hg g v q).1.2;obtain⟨b,off,m,hx,hF,hb,_⟩:=(hg g v q).2.of_fp;cases hx;exact⟨c,T,fr,(ev.keep _ hb (λh=>hF (.inr h))).trans h1,h2⟩⟩,(hg g v q).2.evo ev⟩
theorem vF.evo{ρ':Rho}{w':World}{O':Nat->Prop}{env:List AV}{a:Act}(he:vF num ρ w (λb=>Fb b\/O b) env a)(ev:Evo ρ w O ρ' w' O'):vF num ρ' w' (λb=>Fb b\/O' b) env a:=
 ⟨he.size,λt x y hx hy=>(he.get t x y hx hy).evo ev,he.defers.evo (num:=num) ev⟩
theorem uH(a:Act)(d:Option Tmp)(c:Value):(a.put d c).defers=a.defers:=by cases d<;>rfl
theorem vF.put{F:Nat->Prop}{env:List AV}{a:Act}(he:vF num ρ w F env a){v:AV}{c:Value}(hv:Rv num ρ w F v c)(d:Option Tmp):vF num ρ w F (fP env d v) (a.put d c):=by
 cases d with
 |none=>exact he
 |some d=>refine⟨by simp[fP,Act.put,he.size],?_,he.defers⟩;intro t x y hx hy;simp only[fP,Act.put,List.getElem?_set,Array.getElem?_setIfInBounds]at hx hy;have:=he.size;by_cases ht:d=t;subst ht;simp only[aN]at hx hy;split at hx;cases hx;split at hy;cases hy;exact hv;cases hy;cases hx;rw[if_neg ht]at hx hy;exact he.get t x y hx hy
theorem vF.tmp{F:Nat->Prop}{env:List AV}{a:Act}(he:vF num ρ w F env a)(t:Nat):Rv num ρ w F (jT env t) (a.tmps.getD t undef):=by
 unfold jT;rcases eS t env.length with q|q;have q':t<a.tmps.size:=by have:=he.size;omega
 have:=he.get t env[t] a.tmps[t] (by simp[q]) (by simp[q']);simpa[q,q'] using this;rw[eK q];exact .top _
theorem GM{env:List AV}{a:Act}{F:Nat->Prop}(he:vF num ρ w F env a)(hg:lL num gl bE ρ w F){x:X}{o:Operand}(hf:fitX num bE x o=true):Rv num ρ w F (x.ev gl env) (a.eval o):=by
 unfold fitX at hf;split at hf;obtain rfl:=by simpa using hf
 exact he.tmp _;exact fitV_sound hf;rename_i n g;obtain rfl:bE n=g:=by simpa using hf
 cases hgl:gl n with
 |none=>simp only[X.ev,hgl];exact .top _
 |some v=>simp only[X.ev,hgl];exact(hg n v hgl).2
 rename_i n f;obtain rfl:num n=f:=by simpa using hf
 exact .fn n [] #[] rfl (by intro i x y hx;simp at hx);cases hf
theorem JR{env:List AV}{a:Act}{F:Nat->Prop}(he:vF num ρ w F env a)(hg:lL num gl bE ρ w F):∀{xs:List X}{os:List Operand},fitXs num bE xs os=true ->
  bA (Rv num ρ w F) (xs.map (X.ev gl env)) (os.map a.eval)
 |[],[],_ => .nil
 |[],_::_,h=>by simp[fitXs]at h
 |_::_,[],h=>by simp[fitXs]at h
 |_::_,_::_,h=>by simp only[fitXs,aF]at h;exact .cons (GM he hg h.1) (JR he hg h.2)
theorem bA.split{α β : Type}{R : α -> β -> Prop}:∀{l l':List α}{m m':List β},l.length=m.length->bA R (l++l') (m++m')->bA R l m/\bA R l' m'
 |[],_,[],_,_,h=>⟨.nil,h⟩
 |[],_,_::_,_,h,_=>by simp at h
 |_::_,_,[],_,h,_=>by simp at h
 |_::_,_,_::_,_,hl,h=>by
  cases h with
  |cons h1 h2=>obtain⟨a,b⟩:=bA.split (by simpa using hl) h2;exact⟨.cons h1 a,b⟩
theorem kW {g:Nat} {args:Array Value} (w:World) (h:∃fn,P.funcs[g]?=some fn/\fn.body.isSome=true/\fn.name ≠ "runtime.NumGoroutine") :
  (callFunc g args).run P w = .ok (.enter g args) w:=by
 obtain⟨fn,h1,h2,h3⟩:=h;have hb:fn.body.isNone=false:=by cases hbb:fn.body<;>simp[hbb]at h2 ⊢
 simp[callFunc,h1,h3];intro q;rw[q]at h2;cases h2
def ZF(P:Program)(num:Nm)(gl:Nat->Option AV)(bE:Nat->Nat)(call:cG):Prop:=
 ∀k e avs h r h',call.yl k e avs h=some (r,h') ->
  ∀(Fb:Nat->Prop)(B0:Nat)(ρ : Rho)(O:Nat->Prop)(w:World)(vs:List Value)(L:Loc),HpR num Fb B0 ρ w O h->lL num gl bE ρ w (λb=>Fb b\/O b) ->
   bA (Rv num ρ w (λb=>Fb b\/O b)) avs vs -> ρ k e=some L ->
   ∃fn tmps assign body,(Instr.yield L.b vs.toArray).run P w = .ok (.round L.b fn tmps assign body) w /\
    RoundIn Fence.wide 0 P L.b fn tmps assign body w λen w'=>∃cv ρ' O',en = .returned cv/\Evo ρ w O ρ' w' O'/\HpR num Fb B0 ρ' w' O' h'/\Rv num ρ' w' (λb=>Fb b\/O' b) r cv
structure rT(P:Program)(num:Nm)(gl:Nat->Option AV)(bE:Nat->Nat)(call:cG):Prop where
 fn:j8 P num gl bE call
 yl:ZF P num gl bE call
abbrev FW(ro:Option Nat):Fence:={Fence.wide with round:=ro}
theorem zK{ro:Option Nat}{n:Nat}{f:FuncId}{args:Array Value}{R:Ending->World->Prop}(h:Calls P f args w R):CallsIn (FW ro) n P f args w R:=
 callsIn_wide (n:=n).2 h
theorem fitK_notDefer{num:Nat->Nat}{o:Oper}{k:K}{l:List Operand}(h:fitK P num o k=some l)(hb:k ≠ .bad):∀c,o.op ≠ .defer c:=by intro c hd;cases k<;>simp_all [fitK,x7,aJA]
theorem TT{ro:Option Nat}(hc:rT P num gl bE call){kb:Nat}{r:R}{o:Oper}{l:List Operand}{st:St}{a:Act}{v:AV}{eff:Eff}(H:HpR num Fb B0 ρ w O st.hp)(hg:lL num gl bE ρ w (λb=>Fb b\/O b))
  (he:vF num ρ w (λb=>Fb b\/O b) st.env a) (hf:fitK P num o r.k=some l) (hx:fitXs num bE r.xs l=true) (h1:opR call kb r st.hp (r.xs.map (X.ev gl st.env))=some (v,eff))
  {K:Act->World->Prop} {Q:Exit->Act->World->Prop}
  (hK:∀cv w' ρ' O',Evo ρ w O ρ' w' O'->HpR num Fb B0 ρ' w' O' (eff.app st.hp)->Rv num ρ' w' (λb=>Fb b\/O' b) v cv->K (a.put o.dst cv) w'):o.wpIn (FW ro) 0 P a w K Q:=by
 have hv:=JR he hg hx;generalize r.xs.map (X.ev gl st.env)=vs at *;have hbd:r.k ≠ .bad:=by intro q;simp only[opR,q,LH]at h1;simp[op1]at h1
 refine⟨λ_ _=>trivial,?_⟩;rw[Oper.semAt_eq _ _ _ (fitK_notDefer hf hbd)];have hcall0:∀(f:Nat) (cvs:List Value),((∃fn,P.funcs[num f]?=some fn/\fn.body.isSome=true/\fn.name ≠ "runtime.NumGoroutine") /\
   Calls P (num f) cvs.toArray w λe w'=>∃cv ρ' O',e = .returned cv/\Evo ρ w O ρ' w' O'/\HpR num Fb B0 ρ' w' O' (eff.app st.hp)/\Rv num ρ' w' (λb=>Fb b\/O' b) v cv) ->
   ((∃fn,P.funcs[num f]?=some fn/\fn.body.isSome=true/\fn.name ≠ "runtime.NumGoroutine")->(execOp a.eval o).run P w = .ok (.enter (num f) cvs.toArray) w)->o.uponIn (FW ro) 0 P a K Q ((execOp a.eval o).run P w):=by
  intro f cvs hca hrun;obtain⟨a1,a2⟩:=hca;rw[hrun a1,Oper.uponIn_enter];refine⟨λh=>by simp[Fence.wide]at h,(zK a2).mono ?_⟩;rintro e w' ⟨cv,ρ',O',rfl,q1,q2,q3⟩;exact hK cv w' ρ' O' q1 q2 q3
 have hcall:∀(f:Nat)(avs:List AV)(cvs:List Value)(th im:Bool),pL call kb r.s st.hp f th im avs=some (v,eff)->bA (Rv num ρ w (λb=>Fb b\/O b)) avs cvs ->
   ((∃fn,P.funcs[num f]?=some fn/\fn.body.isSome=true/\fn.name ≠ "runtime.NumGoroutine")->(execOp a.eval o).run P w = .ok (.enter (num f) cvs.toArray) w)->o.uponIn (FW ro) 0 P a K Q ((execOp a.eval o).run P w):=by
  intro f avs cvs th im hca hav hrun;obtain⟨a1,a2⟩:=SM hc.fn H hg hca hav;rw[hrun a1,Oper.uponIn_enter];refine⟨λh=>by simp[Fence.wide]at h,(zK a2).mono ?_⟩;rintro e w' ⟨cv,ρ',O',rfl,q1,q2,q3⟩;exact hK cv w' ρ' O' q1 q2 q3
 cases hk:r.k with
 |call f th im=>
  rw[hk]at hf;simp only[opR,hk]at h1;simp only[fitK]at hf;split at hf
  case h_2=>cases hf
  rename_i g args tys ho;obtain⟨hgd,rfl⟩:=bT hf;obtain rfl:num f=g:=by simpa using hgd
  refine hcall f vs (args.toList.map a.eval) th im h1 hv (λhfn=>?_);have hm:(args.toList.map a.eval).toArray=args.map a.eval:=by rw[<-Array.toList_map]
  rw[hm];have:=kW (P:=P) (g:=num f) (args:=args.map a.eval) w hfn;simp[execOp,ho,resolve,Act.eval,Deferred.ofValue,invoke,this]
 |calle f=>
  rw[hk]at hf;simp only[opR,hk]at h1;simp only[fitK]at hf;split at hf
  case h_2=>cases hf
  rename_i g args tys ho;obtain⟨hgd,rfl⟩:=bT hf;obtain rfl:num f=g:=by simpa using hgd
  refine hcall0 f (args.toList.map a.eval) (N8 hc.fn H hg h1 hv) (λhfn=>?_);have hm:(args.toList.map a.eval).toArray=args.map a.eval:=by rw[<-Array.toList_map]
  rw[hm];have:=kW (P:=P) (g:=num f) (args:=args.map a.eval) w hfn;simp[execOp,ho,resolve,Act.eval,Deferred.ofValue,invoke,this]
 |callr f=>
  rw[hk]at hf;simp only[opR,hk]at h1;simp only[fitK]at hf;split at hf
  case h_2=>cases hf
  rename_i g args tys ho;obtain⟨hgd,rfl⟩:=bT hf;obtain rfl:num f=g:=by simpa using hgd
  refine hcall0 f (args.toList.map a.eval) (A5 hc.fn H hg h1 hv) (λhfn=>?_);have hm:(args.toList.map a.eval).toArray=args.map a.eval:=by rw[<-Array.toList_map]
  rw[hm];have:=kW (P:=P) (g:=num f) (args:=args.map a.eval) w hfn;simp[execOp,ho,resolve,Act.eval,Deferred.ofValue,invoke,this]
 |callvr=>
  rw[hk]at hf;simp only[opR,hk]at h1;simp only[fitK]at hf;split at hf
  case h_2=>cases hf
  rename_i fo args tys ho;cases hf;split at h1
  case h_2=>cases h1
  rename_i f cs avs;cases hv with
  |cons hfv hav=>
   obtain⟨cvs,hfe,hcl,hcg⟩:=hfv.of_fn;have hcv:bA (Rv num ρ w (λb=>Fb b\/O b)) cs cvs.toList:=bA.of_get (by simpa using hcl) (λi x y hx hy=>hcg i x y hx (by simpa using hy));refine hcall0 f (args.toList.map a.eval++cvs.toList) (A5 hc.fn H hg h1 (hav.append hcv)) (λhfn=>?_);have hm:(args.toList.map a.eval++cvs.toList).toArray=args.map a.eval++cvs:=by apply Array.ext';simp
   rw[hm];have:=kW (P:=P) (g:=num f) (args:=args.map a.eval++cvs) w hfn;simp[execOp,ho,resolve,hfe,Deferred.ofValue,invoke,this]
 |callv th im=>
  rw[hk]at hf;simp only[opR,hk]at h1;simp only[fitK]at hf;split at hf
  case h_2=>cases hf
  rename_i fo args tys ho;cases hf;split at h1
  case h_3=>cases h1
  case h_2=>
   rename_i k e avs;split at h1
   case h_2=>cases h1
   rename_i v' h' hy;cases h1;cases hv with
   |cons hfv hav=>
    obtain⟨L,hfe,hL⟩:=hfv.of_yl;obtain⟨fn,tmps,assign,body,q1,q2⟩:=hc.yl _ _ _ _ _ _ hy Fb B0 ρ O w _ L H hg hav hL;have hm:(args.toList.map a.eval).toArray=args.map a.eval:=by rw[<-Array.toList_map]
    rw[hm]at q1;have hrun:(execOp a.eval o).run P w = .ok (.round L.b fn tmps assign body) w:=by simp[execOp,ho,resolve,hfe,Deferred.ofValue,invoke,q1]
    rw[hrun,Oper.uponIn_round];refine⟨λh=>by simp[Fence.wide]at h,?_⟩;refine RoundIn.mono (F:=FW ro) q2 ?_;rintro en w' ⟨cv,ρ',O',rfl,z1,z2,z3⟩;exact hK cv w' ρ' O' z1 z2 z3
  rename_i f cs avs;cases hv with
  |cons hfv hav=>
   obtain⟨cvs,hfe,hcl,hcg⟩:=hfv.of_fn;have hcv:bA (Rv num ρ w (λb=>Fb b\/O b)) cs cvs.toList:=bA.of_get (by simpa using hcl) (λi x y hx hy=>hcg i x y hx (by simpa using hy));refine hcall f _ (args.toList.map a.eval++cvs.toList) th im h1 (hav.append hcv) (λhfn=>?_);have hm:(args.toList.map a.eval++cvs.toList).toArray=args.map a.eval++cvs:=by apply Array.ext';simp
   rw[hm];have:=kW (P:=P) (g:=num f) (args:=args.map a.eval++cvs) w hfn;simp[execOp,ho,resolve,hfe,Deferred.ofValue,invoke,this]
 |_=>
  all_goals
   have h2:op1 st.hp (kb+r.s) r.k vs=some (v,eff):=by rw[hk];simpa only[opR,hk,LH] using h1
   obtain⟨n,cv,w',ρ',O',hr,hn,ev,H',hvv⟩:=Z8 (P:=P) H (ρv:=a.eval) (λ_=>rfl) (λ_=>rfl) hv hf h2;rw[hr];rcases hn with rfl|⟨rfl,rfl⟩
   exact hK _ _ _ _ ev H' hvv;exact hK _ _ _ _ ev H' hvv
theorem yD{ro:Option Nat}(hc:rT P num gl bE call){kb i:Nat}{ops:Array Oper}{r:R}{o:Oper}{st st':St}{eff:Eff}{a:Act}(hi:ops[i]?=some o)(hfit:fitR P num bE ops o r=true)
  (hG:lW num gl bE Fb B0 ρ0 w0 O0 st a w) (hs:lM gl call kb r st=some (st',eff)) {K:Act->World->Prop} {Q:Exit->Act->World->Prop} (hK:∀a' w',lW num gl bE Fb B0 ρ0 w0 O0 st' a' w'->K a' w') :
  wpOpIn (FW ro) 0 P ops Q i K a w:=by
 unfold fitR at hfit;simp only[aF,beq_iff_eq]at hfit;obtain⟨⟨hd,hk⟩,hgd⟩:=hfit;obtain⟨ρ,O,ev0,H,hg,he,hmk⟩:=hG;have hw:wanted st.env r.gd=some (Region.wanted o (yielded ops a.tmps))\/wanted st.env r.gd=none:=by
  unfold wanted Region.wanted;cases hog:o.guard with
  |none=>
   cases hrg:r.gd with
   |none=>exact .inl rfl
   |some p=>simp[hog,hrg]at hgd
  |some p=>
   obtain⟨j,b⟩:=p;cases hrg:r.gd with
   |none=>simp[hog,hrg]at hgd
   |some q=>
    obtain⟨t,c⟩:=q;simp only[hog,hrg,aF,beq_iff_eq]at hgd;obtain⟨rfl,hdst⟩:=hgd;have ht:=he.tmp t;simp only
    have hin:∀x,jT st.env t=x->x ≠ .top->∃y,a.tmps[t]?=some y/\Rv num ρ w (λb=>Fb b\/O b) x y:=by
     intro x hx hne;rcases eS t st.env.length with q|q;have q':t<a.tmps.size:=by have:=he.size;omega
     refine⟨a.tmps[t],by simp[q'],?_⟩;rw[<-hx];simpa[q'] using ht;exfalso;apply hne;rw[<-hx];unfold jT;rw[eK q];rfl
    split;rename_i c' hcb;obtain⟨y,hy,hyr⟩:=hin _ hcb (by simp);have:=hyr.of_bool;subst this;left;simp[yielded,hdst,hy];rename_i hcb;obtain⟨y,hy,hyr⟩:=hin _ hcb (by simp);obtain⟨vs,rfl,hl,_⟩:=hyr.of_tup;left;simp[yielded,hdst,hy];exact .inr rfl
 unfold wpOpIn;rw[hi];simp only;unfold lM at hs;rcases hw with hw|hw
 case inr=>rw[hw]at hs;cases hs
 rw[hw]at hs;cases hwb:Region.wanted o (yielded ops a.tmps) with
 |false=>rw[hwb]at hs;simp only at hs;cases hs;simp only[bR,aL];refine⟨λ_ _=>trivial,hK _ _ ⟨ρ,O,ev0,H,hg,?_,by rw[uH];exact hmk⟩⟩;rw[<-hd];exact he.put (.tup [] #[] rfl (by intro i x y hx;simp at hx)) r.d
 |true=>
  rw[hwb]at hs;simp only at hs;split at hs
  case h_2=>cases hs
  rename_i v eff' hop;cases hs;simp only[aN];split at hk
  case h_2=>cases hk
  rename_i l hfk;refine TT hc H hg he hfk hk hop ?_;intro cv w' ρ' O' e1 e2 e3;refine hK _ _ ⟨ρ',O',ev0.trans e1,e2,hg.evo e1,?_,by rw[uH];exact hmk⟩;rw[<-hd];exact(he.evo e1).put e3 r.d
end
end
section
open Go.RowKit
def nM(h h2:Hp)(rd:List Nat):Prop:=∀q∈rd,h2.get q=h.get q
theorem oA{h h2:Hp}{k:Nat}(hq:h2.get k=h.get k):h2.next k=h.next k:=by simp[Hp.next,hq]
theorem qM{h h2:Hp}{k:Nat}{o:Ob}{f:Nat->AV}{v:AV}{rd:List Nat}{pa:List Ent}(h1:sS h k o f=some (v,.pat rd pa))(ha:nM h h2 rd):sS h2 k o f=some (v,.pat rd pa):=by simp only[sS,cF,cQ,Eff.pat.injEq]at h1 ⊢;obtain⟨rfl,rfl,rfl⟩:=h1;have:=oA (ha k (by simp));rw[this];exact⟨rfl,rfl,rfl⟩
theorem BG{h h2:Hp}{esz:Nat}{ag:Bool}{y:AV}{r:List AV×Nat×List Nat}(h1:bH h esz ag y=some r)(ha:nM h h2 r.2.2):bH h2 esz ag y=some r:=by
 unfold bH at h1 ⊢;split at h1;exact h1;exact h1;rename_i k e off len cap;split at h1
 case h_2=>cases h1
 rename_i e' cs _ _ _ _ hg;split at h1
 case isFalse=>cases h1
 rename_i hc;cases h1;have:=ha k (by simp);simp only[this,hg];rw[if_pos hc];cases h1
theorem yY{h h2:Hp}{f f2:AV->Option (AV×List Nat)}:∀{l:List AV}{l':List AV}{s:List Nat},eN f l=some (l',s)->nM h h2 s ->
  (∀x y s',f x=some (y,s')->nM h h2 s'->f2 x=some (y,s'))->eN f2 l=some (l',s)
 |[],l',s,h1,_,_=>by simpa[eN] using h1
 |x::r,l',s,h1,ha,hf=>by unfold eN at h1 ⊢;split at h1;cases h1;rename_i y s1 hy;split at h1;cases h1;rename_i r' s2 hr;cases h1;rw[hf x y s1 hy (λq hq=>ha q (List.mem_append_left _ hq))];simp only;rw[yY hr (λq hq=>ha q (List.mem_append_right _ hq)) hf]
theorem yK{h h2:Hp}:∀(d:Nat)(v t:AV)(s:List Nat),snap d h v=some (t,s)->nM h h2 s->snap d h2 v=some (t,s)
 |0,v,t,s,h1,_=>by simp[snap]at h1
 |d+1,v,t,s,h1,ha=>by
  have ih:=fun(s:List Nat)(ha:nM h h2 s)(l l':List AV)(hm:eN (snap d h) l=some (l',s))=>yY hm ha (λx y s'=>yK d x y s');unfold snap at h1 ⊢;split at h1;rename_i ht;rw[if_pos ht];exact h1;rename_i ht;rw[if_neg ht];split at h1;rename_i cs;cases hm:eN (snap d h) cs with
  |none=>simp[hm]at h1
  |some r=>obtain⟨l,s0⟩:=r;simp only[hm,Option.map_some,cF,cQ]at h1;obtain⟨rfl,rfl⟩:=h1;simp only[ih _ ha _ _ hm,Option.map_some]
  rename_i cs;cases hm:eN (snap d h) cs with
  |none=>simp[hm]at h1
  |some r=>obtain⟨l,s0⟩:=r;simp only[hm,Option.map_some,cF,cQ]at h1;obtain⟨rfl,rfl⟩:=h1;simp only[ih _ ha _ _ hm,Option.map_some]
  rename_i nl cs cl;cases hm:eN (snap d h) cs with
  |none=>simp[hm]at h1
  |some r=>obtain⟨l,s0⟩:=r;simp only[hm,Option.map_some,cF,cQ]at h1;obtain⟨rfl,rfl⟩:=h1;simp only[ih _ ha _ _ hm,Option.map_some]
  rename_i v';cases hm:snap d h v' with
  |none=>simp[hm]at h1
  |some r=>obtain⟨l,s0⟩:=r;simp only[hm,Option.map_some,cF,cQ]at h1;obtain⟨rfl,rfl⟩:=h1;simp only[yK d _ _ _ hm ha,Option.map_some]
  rename_i f cs;cases hm:eN (snap d h) cs with
  |none=>simp[hm]at h1
  |some r=>obtain⟨l,s0⟩:=r;simp only[hm,Option.map_some,cF,cQ]at h1;obtain⟨rfl,rfl⟩:=h1;simp only[ih _ ha _ _ hm,Option.map_some]
  rename_i k e off len cap;split at h1
  case h_2=>cases h1
  rename_i e' cs esz ag ti fz hg;split at h1
  case isFalse=>cases h1
  rename_i he;split at h1
  case h_2=>cases h1
  rename_i es hch;cases hm:eN (snap d h) es with
  |none=>simp[hm]at h1
  |some r=>obtain⟨l,s0⟩:=r;simp only[hm,Option.map_some,cF,cQ]at h1;obtain⟨rfl,rfl⟩:=h1;have hk:=ha k (by simp);simp only[hk,hg];rw[if_pos he];simp only[hch];rw[ih s0 (λq hq=>ha q (dY _ hq)) _ _ hm];rfl
  rename_i k e off;split at h1
  case h_2=>cases h1
  rename_i e' cs esz ag ti fz hg;split at h1
  case isFalse=>cases h1
  rename_i he;split at h1
  case h_2=>cases h1
  rename_i l s0 hm;have hks:s=k::s0:=by split at h1;cases h1;rfl;split at h1;split at h1;cases h1;cases h1;rfl;cases h1
  subst hks;have hk:=ha k (by simp);simp only[hk,hg];rw[if_pos he];rw[ih s0 (λq hq=>ha q (dY _ hq)) _ _ hm];exact h1;cases h1
theorem r7{h h2:Hp}{q:Nat}(hq:h2.get q=h.get q):∀(pa:List Ent),(dZ h2 pa).get q=(dZ h pa).get q
 |[]=>hq
 |x::r=>by simp only[dZ];exact r7 (by simp only[aI,hq]) r
theorem sC:∀(S:List Nat)(h h2:Hp),nM h h2 S->gJ h2 S=gJ h S
 |[],_,_,_=>rfl
 |k::r,h,h2,ha=>by have hk:=ha k (by simp);have hr:nM h h2 r:=λq hq=>ha q (dY _ hq);unfold gJ;rw[hk];split;rename_i e cs esz ag ti hg;rw[sC r (h.put k e (.blk cs esz ag ti true)) (h2.put k e (.blk cs esz ag ti true)) (λq hq=>by simp only[aI,hr q hq])];exact sC r _ _ hr
theorem HU{h h2:Hp}{k:Nat}{th:Bool}{r:AV}(hq:h2.get k=h.get k):iO h2 k th r=iO h k th r:=by unfold iO;rw[oA hq]
theorem DT{call:cG}{kb s f:Nat}{th im:Bool}{h h2:Hp}{vs:List AV}{v:AV}{rd:List Nat}{pa:List Ent}(h1:pL call kb s h f th im vs=some (v,.pat rd pa))(ha:nM h h2 rd) :
  pL call kb s h2 f th im vs=some (v,.pat rd pa):=by
 unfold pL at h1 ⊢;split at h1;rename_i ts keys hm;cases im with
 |true=>simp at hm
 |false=>
  simp only[bR,aL]at hm;split at h1
  case h_2=>cases h1
  rename_i r hr;split at h1
  case h_2=>cases h1
  rename_i v' pa' hrec;cases h1;have hks:nM h h2 keys:=λq hq=>ha q (dY _ hq);have h0:h2.get (kb+s)=h.get (kb+s):=ha _ (by simp);have hm2:=yY hm hks (λx y s'=>yK depth x y s');simp only[bR,aL,hm2,hr,HU h0,hrec,sC keys h h2 hks]
 split at h1;cases h1;cases h1
theorem HM{h h2:Hp}{k0 esz:Nat}{ag:Bool}{bytes:Nat}{x:AV}{src:List AV}{n:Nat}{r0 rd:List Nat}{v:AV}{pa:List Ent}(h1:nJ h k0 esz ag bytes x src n r0=some (v,.pat rd pa))(ha:nM h h2 rd) :
  nJ h2 k0 esz ag bytes x src n r0=some (v,.pat rd pa)/\∀q∈r0,q∈rd:=by
 unfold nJ at h1 ⊢;split at h1;split at h1;rename_i hn;rw[if_pos hn];cases h1;exact⟨by first|trivial|rfl,λq hq=>hq⟩;rename_i hn;rw[if_neg hn];split at h1
 case isFalse=>cases h1
 rename_i hc;rw[if_pos hc];split at h1
 case h_2=>cases h1
 rename_i cs hcs;cases h1;have:=oA (ha k0 (by simp));simp only[hcs,this];exact⟨by first|trivial|rfl,λq hq=>dY _ hq⟩;rename_i k e off len cap;split at h1
 case h_2=>cases h1
 rename_i e' cs esz' ag' ti fz hg;split at h1
 case isFalse=>cases h1
 rename_i hc;split at h1;rename_i hn;cases h1;simp only[ha k (by simp),hg];rw[if_pos hc,if_pos hn];exact⟨by first|trivial|rfl,λq hq=>dY _ hq⟩;rename_i hn;split at h1;rename_i hle;split at h1;cases h1;rename_i hfz;cases h1;simp only[ha k (by simp),hg];rw[if_pos hc,if_neg hn,if_pos hle,if_neg hfz];exact⟨by first|trivial|rfl,λq hq=>dY _ hq⟩;rename_i hle;split at h1;rename_i hb;split at h1;rename_i hti;cases h1;have hnx:=oA (ha k0 (by simp));simp only[ha k (by simp),hg,hnx];rw[if_pos hc,if_neg hn,if_neg hle,if_pos hb,if_pos hti];exact⟨by first|trivial|rfl,λq hq=>dY _ (dY _ hq)⟩;rename_i hti;split at h1;cases h1;rename_i hfz;cases h1;have hnx:=oA (ha k0 (by simp));simp only[ha k (by simp),hg,hnx];rw[if_pos hc,if_neg hn,if_neg hle,if_pos hb,if_neg hti,if_neg hfz];exact⟨by first|trivial|rfl,λq hq=>dY _ (dY _ hq)⟩;rename_i hb;split at h1;rename_i hb2;cases h1;simp only[ha k (by simp),hg];rw[if_pos hc,if_neg hn,if_neg hle,if_neg hb,if_pos hb2];exact⟨by first|trivial|rfl,λq hq=>dY _ hq⟩;cases h1;cases h1
theorem KY{h h2:Hp}{esz:Nat}{x:AV}{lo hi mx:Option Int}{rd:List Nat}{v:AV}{pa:List Ent}(h1:j1 h esz x lo hi mx=some (v,.pat rd pa))(ha:nM h h2 rd) :
  j1 h2 esz x lo hi mx=some (v,.pat rd pa):=by
 unfold j1 at h1 ⊢;split at h1;exact h1;rename_i k e off len cap;split at h1
 case h_2=>cases h1
 rename_i e' cs esz' ag' ti fz hg;simp only at h1;split at h1;rename_i hc;cases h1;simp only[ha k (by simp),hg];rw[if_pos hc];rename_i hc;split at h1;rename_i hc2;cases h1;simp only[ha k (by simp),hg];rw[if_neg hc,if_pos hc2];cases h1;cases h1
theorem Z9{P:Program}{num:Nm}{o:Oper}{l:List Operand}{h h2:Hp}{k0:Nat}{k:K}(hf:fitK P num o k=some l){vs:List AV}{rd:List Nat}{v:AV}{pa:List Ent}
  (h1:op1 h k0 k vs=some (v,.pat rd pa)) (ha:nM h h2 rd):op1 h2 k0 k vs=some (v,.pat rd pa):=by
 have any:op1 h2 k0 k vs=op1 h k0 k vs->op1 h2 k0 k vs=some (v,.pat rd pa):=λq=>q.trans h1;cases k with
 |mov=>rcases vs with _|⟨x,_|⟨y,_|⟨z,_|⟨u,r⟩⟩⟩⟩<;>exact any rfl
 |pick=>rcases vs with _|⟨x,_|⟨y,_|⟨z,_|⟨u,r⟩⟩⟩⟩<;>exact any rfl
 |build z p=>rcases vs with _|⟨x,_|⟨y,_|⟨z,_|⟨u,r⟩⟩⟩⟩<;>exact any rfl
 |nilc=>rcases vs with _|⟨x,_|⟨y,_|⟨z,_|⟨u,r⟩⟩⟩⟩<;>exact any rfl
 |bin op=>rcases vs with _|⟨x,_|⟨y,_|⟨z,_|⟨u,r⟩⟩⟩⟩<;>exact any rfl
 |beq n=>rcases vs with _|⟨x,_|⟨y,_|⟨z,_|⟨u,r⟩⟩⟩⟩<;>exact any rfl
 |eqn q n=>rcases vs with _|⟨x,_|⟨y,_|⟨z,_|⟨u,r⟩⟩⟩⟩<;>exact any rfl
 |eqs n q=>rcases vs with _|⟨x,_|⟨y,_|⟨z,_|⟨u,r⟩⟩⟩⟩<;>exact any rfl
 |un op=>rcases vs with _|⟨x,_|⟨y,_|⟨z,_|⟨u,r⟩⟩⟩⟩<;>exact any rfl
 |cvi k=>rcases vs with _|⟨x,_|⟨y,_|⟨z,_|⟨u,r⟩⟩⟩⟩<;>exact any rfl
 |s2b=>rcases vs with _|⟨x,_|⟨y,_|⟨z,_|⟨u,r⟩⟩⟩⟩<;>exact any rfl
 |fad a b c=>rcases vs with _|⟨x,_|⟨y,_|⟨z,_|⟨u,r⟩⟩⟩⟩<;>exact any rfl
 |iad a b c=>rcases vs with _|⟨x,_|⟨y,_|⟨z,_|⟨u,r⟩⟩⟩⟩<;>exact any rfl
 |bx q=>rcases vs with _|⟨x,_|⟨y,_|⟨z,_|⟨u,r⟩⟩⟩⟩<;>exact any rfl
 |ixs=>rcases vs with _|⟨x,_|⟨y,_|⟨z,_|⟨u,r⟩⟩⟩⟩<;>exact any rfl
 |ixa a b c=>rcases vs with _|⟨x,_|⟨y,_|⟨z,_|⟨u,r⟩⟩⟩⟩<;>exact any rfl
 |sls a b=>rcases vs with _|⟨x,_|⟨y,_|⟨z,_|⟨u,r⟩⟩⟩⟩<;>exact any rfl
 |mn=>rcases vs with _|⟨x,_|⟨y,_|⟨z,_|⟨u,r⟩⟩⟩⟩<;>exact any rfl
 |mx=>rcases vs with _|⟨x,_|⟨y,_|⟨z,_|⟨u,r⟩⟩⟩⟩<;>exact any rfl
 |ext i=>rcases vs with _|⟨x,_|⟨y,_|⟨z,_|⟨u,r⟩⟩⟩⟩<;>exact any rfl
 |mki=>rcases vs with _|⟨x,_|⟨y,_|⟨z,_|⟨u,r⟩⟩⟩⟩<;>exact any rfl
 |mkf f=>rcases vs with _|⟨x,_|⟨y,_|⟨z,_|⟨u,r⟩⟩⟩⟩<;>exact any rfl
 |call=>simp[op1]at h1
 |callv=>simp[op1]at h1
 |calle f=>simp[op1]at h1
 |callr f=>simp[op1]at h1
 |callvr=>simp[op1]at h1
 |bad=>simp[op1]at h1
 |apz a b c d=>
  clear any
  match vs,h1 with
  |[x,y],h1=>
   simp only[op1]at h1 ⊢;split at h1
   case h_2=>cases h1
   split at h1
   case isFalse=>cases h1
   rename_i hc;rw[if_pos hc];exact(HM h1 ha).1
 |mkm=>
  clear any
  match vs,h1 with
  |[],h1=>simp only[op1]at h1 ⊢;exact qM h1 ha
 |mlk q z ok=>
  clear any
  match vs,h1 with
  |[m,x],h1=>
   cases m with
   |nilm=>exact h1
   |mp k e=>
    simp only[op1]at h1 ⊢;cases hg:h.get k with
    |none=>simp[hg]at h1
    |some eo=>
     obtain⟨e',ob⟩:=eo;have hk:k∈rd:=by
      simp only[hg]at h1;split at h1
      ·split at h1
       ·split at h1<;>first|(cases h1;done)|(simp only[cF,cQ,Eff.pat.injEq]at h1;obtain⟨_,rfl,_⟩:=h1;simp)
       cases h1
      cases h1
     rw[ha k hk,hg];simpa only[hg] using h1
   |_=>simp[op1]at h1
 |mup q=>
  clear any
  match vs,h1 with
  |[m,x,y],h1=>
   cases m with
   |mp k e=>
    simp only[op1]at h1 ⊢;cases hg:h.get k with
    |none=>simp[hg]at h1
    |some eo=>
     obtain⟨e',ob⟩:=eo;have hk:k∈rd:=by
      simp only[hg]at h1;split at h1
      ·split at h1
       ·split at h1<;>first|(cases h1;done)|(simp only[cF,cQ,Eff.pat.injEq]at h1;obtain⟨_,rfl,_⟩:=h1;simp)
       cases h1
      cases h1
     rw[ha k hk,hg];simpa only[hg] using h1
   |_=>simp[op1]at h1
 |men q z=>
  clear any
  match vs,h1 with
  |[m,x],h1=>
   cases m with
   |mp k e=>
    simp only[op1]at h1 ⊢;cases hg:h.get k with
    |none=>simp[hg]at h1
    |some eo=>
     obtain⟨e',ob⟩:=eo;have hk:k∈rd:=by
      simp only[hg]at h1;split at h1
      ·split at h1
       ·split at h1
        ·split at h1<;>first|(cases h1;done)|(simp only[cF,cQ,Eff.pat.injEq]at h1;obtain⟨_,rfl,_⟩:=h1;simp)
        simp only[cF,cQ,Eff.pat.injEq]at h1;obtain⟨_,rfl,_⟩:=h1;simp;cases h1
       cases h1
      cases h1
     rw[ha k hk,hg];simpa only[hg] using h1
   |_=>simp[op1]at h1
 |mes=>
  clear any
  match vs,h1 with
  |[m,s,x],h1=>
   cases m with
   |mp k e=>
    cases s with
    |int q n=>
     simp only[op1]at h1 ⊢;cases hg:h.get k with
     |none=>simp[hg]at h1
     |some eo=>
      obtain⟨e',ob⟩:=eo;have hk:k∈rd:=by
       simp only[hg]at h1;split at h1
       ·split at h1
        ·split at h1<;>first|(cases h1;done)|(simp only[cF,cQ,Eff.pat.injEq]at h1;obtain⟨_,rfl,_⟩:=h1;simp)
        cases h1
       cases h1
      rw[ha k hk,hg];simpa only[hg] using h1
    |_=>simp[op1]at h1
   |_=>simp[op1]at h1
 |rng=>
  clear any
  match vs,h1 with
  |[m],h1=>
   cases m with
   |mp k e=>
    simp only[op1]at h1 ⊢;cases hg:h.get k with
    |none=>simp[hg]at h1
    |some eo=>
     obtain⟨e',ob⟩:=eo;have hk:k0∈rd/\k∈rd:=by simp only[hg]at h1;split at h1;split at h1;simp only[cF,cQ,Eff.pat.injEq]at h1;obtain⟨_,rfl,_⟩:=h1;simp;cases h1;cases h1
     rw[ha k hk.2,hg,oA (ha k0 hk.1)];simpa only[hg] using h1
   |_=>simp[op1]at h1
 |ent=>
  clear any
  match vs,h1 with
  |[m],h1=>
   cases m with
   |pt k e off=>
    simp only[op1]at h1 ⊢;split at h1
    case h_2=>cases h1
    rename_i e' mk me since seen last hg;split at h1
    case isFalse=>cases h1
    rename_i hc;split at h1
    case h_2=>cases h1
    rename_i s e2 es bs ck hs hgm;split at h1
    case isFalse=>cases h1
    rename_i hc2;split at h1
    case h_2=>cases h1
    rename_i a u hfb;simp only[cF,cQ,Eff.pat.injEq]at h1;obtain⟨rfl,rfl,rfl⟩:=h1;rw[ha k (by simp),hg];simp only;rw[if_pos hc,hs,ha mk (by simp),hgm];simp only;rw[if_pos hc2,hfb]
   |_=>simp[op1]at h1
 |box=>
  clear any
  match vs,h1 with
  |[x],h1=>
   simp only[op1]at h1 ⊢;split at h1
   case isFalse=>cases h1
   rename_i hc;rw[if_pos hc];exact qM h1 ha
 |alloc z a=>
  clear any
  match vs,h1 with
  |[],h1=>simp only[op1]at h1 ⊢;exact qM h1 ha
 |mkSl a b c=>
  have e1:∀h0:Hp,op1 h0 k0 (.mkSl a b c) vs=if c=true then (match cK a b vs with
   |some cs=>sS h0 k0 (.blk cs a b true false) (λe => .rf k0 e 0 vs.length vs.length)
   |none=>none) else if (vs.all λv=>v.fits a b)=true then val (.sl false vs true) else none:=by
   intro h0;rcases vs with _|⟨x,_|⟨y,_|⟨z,_|⟨u,r⟩⟩⟩⟩<;>rfl
  rw[e1]at h1 ⊢;cases c with
  |true=>
   simp only[aN]at h1 ⊢;cases hu:cK a b vs with
   |none=>simp[hu]at h1
   |some cs=>simp only[hu]at h1 ⊢;exact qM h1 ha
  |false=>exact h1
 |load a b=>
  clear any
  match vs,h1 with
  |[x],h1=>
   simp only[op1]at h1 ⊢;split at h1;exact h1;rename_i k e off;split at h1
   case h_2=>cases h1
   rename_i e' cs _ _ _ _ hg;split at h1
   case isFalse=>cases h1
   rename_i hc;cases hp:jR cs off a b with
   |none=>simp[hp]at h1
   |some u=>simp only[hp,Option.map_some,cF,cQ,Eff.pat.injEq]at h1;obtain⟨rfl,rfl,rfl⟩:=h1;simp only[ha k (by simp),hg];rw[if_pos hc,hp];rfl
   cases h1
 |store a b=>
  clear any
  match vs,h1 with
  |[x,y],h1=>
   simp only[op1]at h1 ⊢;split at h1;rename_i k e off;split at h1
   case h_2=>cases h1
   rename_i e' cs _ _ _ hg;split at h1
   case isFalse=>cases h1
   rename_i hc;cases h1;simp only[ha k (by simp),hg];rw[if_pos hc];cases h1
 |b2s=>
  clear any
  match vs,h1 with
  |[x],h1=>
   have e1:∀h0:Hp,(∀s,x ≠ .str s)->op1 h0 k0 .b2s [x]=match bH h0 1 false x with
    |some (cs,_,rd)=>match pU cs with
     |some bs=>some (.str bs,.pat rd [])
     |none=>none
    |none=>none:=by
    intro h0 hx;cases x<;>first|rfl|exact absurd rfl (hx _)
   by_cases hx:∀s,x ≠ .str s;rw[e1 _ hx]at h1 ⊢;split at h1
   case h_2=>cases h1
   rename_i cs n rd' hs;split at h1
   case h_2=>cases h1
   rename_i bs hb;cases h1;rw[BG hs ha];simp only[hb];cases x<;>first|exact h1|exact absurd (λs q=>by cases q) hx
 |slc a b c d=>
  clear any
  match vs,h1 with
  |x::r,h1=>
   simp only[op1]at h1 ⊢;cases q1:kX b r with
   |none=>simp[q1]at h1
   |some p=>
    simp only[q1]at h1 ⊢;cases q2:kX c p.2 with
    |none=>simp[q2]at h1
    |some p2=>
     simp only[q2]at h1 ⊢;cases q3:kX d p2.2 with
     |none=>simp[q3]at h1
     |some p3=>
      obtain⟨m,r3⟩:=p3;cases r3 with
      |nil=>simp only[q3]at h1 ⊢;exact KY h1 ha
      |cons=>simp[q3]at h1
 |mks a b c d=>
  clear any
  match vs,h1 with
  |[x,y],h1=>
   simp only[op1]at h1 ⊢;split at h1
   case h_2=>cases h1
   split at h1
   case isFalse=>cases h1
   rename_i hc;rw[if_pos hc];exact qM h1 ha
 |len q=>
  rcases vs with _|⟨x,_|⟨y,r⟩⟩
  simp[op1]at h1;rcases q with _|_|_|q;exact any rfl;exact any rfl;clear any;cases x with
  |mp k e=>
   simp only[op1]at h1 ⊢;split at h1
   case h_2=>cases h1
   rename_i e' es hg;split at h1
   case isFalse=>cases h1
   rename_i hc;cases h1;simp only[ha k (by simp),hg];rw[if_pos hc]
  |_=>exact h1
  simp[op1]at h1;simp[op1]at h1
 |cap=>
  clear any
  match vs,h1 with
  |[x],h1=>
   simp only[op1]at h1 ⊢;split at h1;exact h1;rename_i k e _ _ cap;split at h1
   case h_2=>cases h1
   rename_i e' _ _ _ _ hg;split at h1
   case isFalse=>cases h1
   rename_i hc;cases h1;simp only[ha k (by simp),hg];rw[if_pos hc];cases h1
 |app a b c=>
  clear any
  match vs,h1 with
  |[x,y],h1=>
   simp only[op1]at h1 ⊢;split at h1
   case h_2=>cases h1
   rename_i cs n rd' hs;obtain⟨q1,q2⟩:=HM h1 ha;rw[BG hs (λq hq=>ha q (q2 q hq))];exact q1
 |cpy a b=>
  clear any
  match vs,h1 with
  |[x,y],h1=>
   simp only[op1]at h1 ⊢;split at h1
   case h_2=>cases h1
   rename_i k e off len _;split at h1
   case h_2=>cases h1
   rename_i e' cs esz' ag' ti new n rd' hg hs;split at h1
   case isFalse=>cases h1
   rename_i hc;cases h1;rw[BG hs (λq hq=>ha q (dY _ hq)),ha k (by simp)];simp only[hg];rw[if_pos hc]
theorem EZ{call:cG}{f:Nat}{vs:List AV}{h h2:Hp}:∀{n b:Nat}{r:AV}{rd:List Nat}{pa:List Ent},rV call h f vs n b=some (r,rd,pa)->nM h h2 rd->rV call h2 f vs n b=some (r,rd,pa)
 |0,_,_,_,_,h1,_=>by simp[rV]at h1
 |n+1,b,r,rd,pa,h1,ha=>by
  unfold rV at h1 ⊢;cases hc:call f vs b [] with
  |none=>simp[hc]at h1
  |some q=>
   obtain⟨r0,h0⟩:=q;simp only[hc]at h1 ⊢
   have key:∀S:List Nat,(∀k∈h0.map (·.k),k∈S)->nM h h2 S->(h0.all λx=>(h2.get x.k).isNone)=(h0.all λx=>(h.get x.k).isNone):=by intro S hS hA;rw[Bool.eq_iff_iff];simp only[eT];constructor;intro q x hx;rw[<-hA x.k (hS _ (List.mem_map_of_mem hx))];exact q x hx;intro q x hx;rw[hA x.k (hS _ (List.mem_map_of_mem hx))];exact q x hx
   cases hall:(kG h0&&h0.all λx=>(h.get x.k).isNone) with
   |true=>rw[hall]at h1;simp only[aN,cF,cQ]at h1;obtain⟨rfl,rfl,rfl⟩:=h1;rw[key _ (λ_ h=>h) ha,hall];simp
   |false=>
    rw[hall]at h1;simp only[bR,aL]at h1;split at h1
    case h_2=>cases h1
    rename_i r' rd' pa' ht;simp only[cF,cQ]at h1;obtain⟨rfl,rfl,rfl⟩:=h1;rw[key _ (λk hk=>List.mem_append_left _ hk) ha,hall,EZ ht (λq hq=>ha q (List.mem_append_right _ hq))];simp
theorem OA{call:cG}{kb s f:Nat}{h h2:Hp}{vs:List AV}{v:AV}{rd:List Nat}{pa:List Ent}(h1:pF call kb s h f vs=some (v,.pat rd pa))(ha:nM h h2 rd):pF call kb s h2 f vs=some (v,.pat rd pa):=by
 unfold pF at h1 ⊢;split at h1
 case isFalse=>cases h1
 rename_i ht;rw[if_pos ht];split at h1
 case h_2=>cases h1
 rename_i r rd' pa' hq;simp only[cF,cQ,Eff.pat.injEq]at h1;obtain⟨rfl,rfl,rfl⟩:=h1;rw[EZ hq ha]
theorem HG{call:cG}{kb s f:Nat}{h:Hp}{vs:List AV}(v:AV)(rd:List Nat)(pa:List Ent):¬oH call kb s h f vs=some (v,.pat rd pa):=by intro h1;unfold oH at h1;split at h1;dsimp only at h1;split at h1<;>cases h1;cases h1
theorem Z7{P:Program}{num:Nm}{o:Oper}{l:List Operand}{call:cG}{kb:Nat}{r:R}(hf:fitK P num o r.k=some l){h h2:Hp}{vs:List AV}{v:AV}{rd:List Nat}{pa:List Ent}
  (h1:opR call kb r h vs=some (v,.pat rd pa)) (ha:nM h h2 rd):opR call kb r h2 vs=some (v,.pat rd pa):=by
 unfold opR at h1 ⊢;split at h1;exact DT h1 ha;exact OA h1 ha;exact absurd h1 (HG _ _ _);split at h1;exact absurd h1 (HG _ _ _);cases h1;split at h1
 case h_3=>cases h1
 case h_2=>split at h1<;>cases h1
 exact DT h1 ha;rw[LH]at h1 ⊢;exact Z9 hf h1 ha
end
section
open Go.RowKit
structure Tr where
 d:Option Nat
 v:AV
 e:Eff
def Tr.app(x:Tr)(s:St):St:=⟨fP s.env x.d x.v,x.e.app s.hp⟩
def gP(b:Nat->Bool):Nat->List Tr->St->St
 |_,[],s=>s
 |i,x::l,s=>gP b (i+1) l (if b i then x.app s else s)
def E7(gl:Nat->Option AV)(call:cG)(kb:Nat)(r:R)(st:St):Option (AV×Eff):=
 match wanted st.env r.gd with
 |none=>none
 |some false=>some (.tup [],.pat [] [])
 |some true=>opR call kb r st.hp (r.xs.map (X.ev gl st.env))
theorem OU(gl:Nat->Option AV)(call:cG)(kb:Nat)(r:R)(st:St) :
  lM gl call kb r st=(E7 gl call kb r st).map λp=>((Tr.mk r.d p.1 p.2).app st,p.2):=by
 unfold lM E7;rcases wanted st.env r.gd with _|_|_;rfl;rfl;simp only;cases opR call kb r st.hp (r.xs.map (X.ev gl st.env))<;>rfl
theorem rJ{b c:Nat->Bool}:∀{tr:List Tr}{i:Nat}{s:St},(∀j,j<tr.length->b (i+j)=c (i+j))->gP b i tr s=gP c i tr s
 |[],_,_,_=>rfl
 |x::l,i,s,h=>by
  simp only[gP];have h0:=h 0 (by simp);rw[Nat.add_zero]at h0;rw[h0]
  exact rJ (λj hj=>by
   have:=h (j+1) (by simp;omega);rwa [Nat.add_comm j 1,<-eX]at this)
theorem zD{b:Nat->Bool}:∀{tr:List Tr}{i:Nat}{s:St},(∀j,j<tr.length->b (i+j)=false)->gP b i tr s=s
 |[],_,_,_=>rfl
 |x::l,i,s,h=>by
  simp only[gP];have h0:=h 0 (by simp);rw[Nat.add_zero]at h0;rw[h0];simp only[bR,aL]
  exact zD (λj hj=>by
   have:=h (j+1) (by simp;omega);rwa [Nat.add_comm j 1,<-eX]at this)
theorem PJ{gl:Nat->Option AV}{call:cG}{kb:Nat}:∀{rs:List R}{i0:Nat}{st st':St}{es:List Eff},lO gl call kb rs st=some (st',es) ->
  ∃tr:List Tr,tr.length=rs.length/\(∀i:Nat,(tr[i]?).map Tr.e=es[i]?)/\gP (λ_=>true) i0 tr st=st' /\
   ∀(i:Nat)(r:R)(x:Tr),rs[i]?=some r->tr[i]?=some x->x.d=r.d/\E7 gl call kb r (gP (λj=>decide (j<i0+i)) i0 tr st)=some (x.v,x.e)
 |[],i0,st,st',es,h=>by simp[lO]at h;obtain⟨rfl,rfl⟩:=h;exact⟨[],rfl,by simp,rfl,by simp⟩
 |r::rs,i0,st,st',es,h=>by
  unfold lO at h;split at h
  case h_2=>cases h
  rename_i st1 e hs
  try simp only at h
  cases hr:lO gl call kb rs st1 with
  |none=>simp[hr]at h
  |some p=>
   obtain⟨st2,es2⟩:=p;simp[hr]at h;obtain⟨rfl,rfl⟩:=h;rw[OU]at hs;cases hv:E7 gl call kb r st with
   |none=>simp[hv]at hs
   |some p=>
    obtain⟨v,e'⟩:=p;simp[hv]at hs;obtain⟨hs1,rfl⟩:=hs;obtain⟨tr,t1,t2,t3,t4⟩:=PJ (i0:=i0+1) hr;refine⟨⟨r.d,v,e'⟩::tr,by simp[t1],?_,?_,?_⟩;intro i;cases i with
    |zero=>rfl
    |succ i=>simpa using t2 i
    simp only[gP,aN,hs1];exact t3;intro i r' x hr' hx;cases i with
    |zero=>simp at hr' hx;subst hr' hx;refine⟨rfl,?_⟩;have:gP (λj=>decide (j<i0+0)) i0 (⟨r.d,v,e'⟩::tr) st=st:=zD (λj _=>by simp);rw[this];exact hv
    |succ i=>obtain⟨q1,q2⟩:=t4 i r' x (by simpa using hr') (by simpa using hx);refine⟨q1,?_⟩;rw[<-q2];simp only[gP];rw[if_pos (by simp),hs1];congr 1;exact rJ (λj _=>by simp;omega)
structure Ag(uses:List Nat)(e:Eff)(s s2:St):Prop where
 len:s.env.length=s2.env.length
 env:∀t∈uses,jT s2.env t=jT s.env t
 hp:match e with
  |.pat rd _=>nM s.hp s2.hp rd
  |.whole _=>s2.hp=s.hp
  |.all _=>s2.hp=s.hp
theorem wB(env:List AV)(d:Option Nat)(v:AV):(fP env d v).length=env.length:=by cases d<;>simp[fP]
theorem BX(env:List AV)(d:Option Nat)(v:AV)(t:Nat):jT (fP env d v) t=if d=some t/\t<env.length then v else jT env t:=by
 cases d with
 |none=>simp[fP]
 |some d=>
  simp only[fP,jT,List.getElem?_set];by_cases h:d=t;subst h;by_cases h2:d<env.length;simp[h2];simp[h2];have:¬(some d=some t/\t<env.length):=by simp[h]
  rw[if_neg h,if_neg this]
theorem Ag.refl(uses:List Nat)(e:Eff)(s:St):Ag uses e s s:=⟨rfl,λ_ _=>rfl,by cases e<;>simp[nM]⟩
theorem Ag.both{uses:List Nat}{e:Eff}{s s2:St}(h:Ag uses e s s2)(x:Tr):Ag uses e (x.app s) (x.app s2):=by
 refine⟨by simp[Tr.app,wB,h.len],?_,?_⟩;intro t ht;simp only[Tr.app,BX,h.env t ht,h.len];have h3:=h.hp;cases e with
 |pat rd pa=>
  intro q hq;simp only at h3;have:=h3 q hq;simp only[Tr.app];cases x.e with
  |pat r2 p2=>exact r7 this p2
  |whole h'=>rfl
  |all p2=>exact r7 this p2
 |whole h'=>simp only at h3;simp only[Tr.app];rw[h3]
 |all pa=>simp only at h3;simp only[Tr.app];rw[h3]
def EA:Eff->Eff->Prop
 |.pat r1 p1,.pat r2 p2=>(∀k∈p1.map (·.k),k ∉ r2/\k ∉ p2.map (·.k))/\(∀k∈p2.map (·.k),k ∉ r1/\k ∉ p1.map (·.k))
 |.pat r p,.whole _|.whole _,.pat r p=>r=[]/\p=[]
 |.whole _,.whole _=>False
 |.pat r p,.all pa|.all pa,.pat r p=>p=[]/\∀k∈pa.map (·.k),k ∉ r
 |.whole _,.all _|.all _,.whole _|.all _,.all _=>False
theorem EA.symm{x y:Eff}(h:EA x y):EA y x:=by cases x<;>cases y<;>simp only[EA]at h ⊢ <;> first|exact⟨h.2,h.1⟩|exact h
theorem qR{q:Nat}:∀(pa:List Ent)(h:Hp),q ∉ pa.map (·.k)->(dZ h pa).get q=h.get q
 |[],_,_=>rfl
 |x::r,h,hq=>by simp only[List.map_cons,dA,not_or]at hq;simp only[dZ];rw[qR r _ hq.2,aI,if_neg (λe=>hq.1 e.symm)]
theorem Ag.onlyL{uses:List Nat}{e:Eff}{s s2:St}(h:Ag uses e s s2)(x:Tr)(hd:∀d,x.d=some d->d ∉ uses)(he:EA e x.e):Ag uses e (x.app s) s2:=by
 refine⟨by simp[Tr.app,wB,h.len],?_,?_⟩;intro t ht;simp only[Tr.app,BX];rw[if_neg (λq=>hd t q.1 ht)];exact h.env t ht;have h3:=h.hp;cases e with
 |pat rd pa=>
  intro q hq;have:=h3 q hq;simp only[Tr.app];cases hx:x.e with
  |pat r2 p2=>simp only[hx,EA]at he;simp only[Eff.app];rw[qR _ _ (λhm=>(he.2 q hm).1 hq)];exact this
  |whole h'=>simp only[hx,EA]at he;rw[he.1]at hq;cases hq
  |all p2=>simp only[hx,EA]at he;simp only[Eff.app];rw[qR _ _ (λhm=>he.2 q hm hq)];exact this
 |whole h'=>
  simp only at h3;simp only[Tr.app];cases hx:x.e with
  |pat r2 p2=>simp only[hx,EA]at he;rw[he.2];exact h3
  |whole h2=>simp[hx,EA]at he
  |all p2=>simp[hx,EA]at he
 |all pa=>
  simp only at h3;simp only[Tr.app];cases hx:x.e with
  |pat r2 p2=>simp only[hx,EA]at he;rw[he.1];exact h3
  |whole h2=>simp[hx,EA]at he
  |all p2=>simp[hx,EA]at he
theorem Ag.symm{uses:List Nat}{e:Eff}{s s2:St}(h:Ag uses e s s2):Ag uses e s2 s:=by
 refine⟨h.len.symm,λt ht=>(h.env t ht).symm,?_⟩;have h3:=h.hp;cases e with
 |pat rd pa=>exact λq hq=>(h3 q hq).symm
 |whole h'=>exact h3.symm
 |all pa=>exact h3.symm
theorem YX{A:St->St->Prop}{b c:Nat->Bool}:∀{tr:List Tr}{i0:Nat}{s s2:St},A s s2 ->
  (∀(j:Nat)(x:Tr),tr[j]?=some x->∀s s2,A s s2->(b (i0+j)=true->c (i0+j)=true->A (x.app s) (x.app s2)) /\
   (b (i0+j)=true->c (i0+j)=false->A (x.app s) s2)/\(b (i0+j)=false->c (i0+j)=true->A s (x.app s2))) ->
  A (gP b i0 tr s) (gP c i0 tr s2)
 |[],_,_,_,h,_=>h
 |x::l,i0,s,s2,h,hx=>by
  simp only[gP];have h0:=hx 0 x rfl s s2 h;rw[Nat.add_zero]at h0
  refine YX ?_ (λj y hy s s2 hA=>by
   have:=hx (j+1) y (by simpa using hy) s s2 hA;rwa [Nat.add_comm j 1,<-eX]at this)
  cases hb:b i0<;>cases hc:c i0<;>simp;exact h;exact h0.2.2 hb hc;exact h0.2.1 hb hc;exact h0.1 hb hc
theorem CZ:∀(pa pb:List Ent)(h:Hp),(∀k∈pa.map (·.k),k ∉ pb.map (·.k))->dZ (dZ h pa) pb=dZ (dZ h pb) pa
 |[],_,_,_=>rfl
 |x::r,pb,h,hd=>by
  simp only[dZ];rw[CZ r pb _ (λk hk=>hd k (by simp at hk ⊢;exact .inr hk))];congr 1;have hx:x.k ∉ pb.map (·.k):=hd x.k (by simp);clear hd
  induction pb generalizing h with
  |nil=>rfl
  |cons y pb ih=>simp only[List.map_cons,dA,not_or]at hx;simp only[dZ];rw[aBH _ _ _ _ _ _ _ hx.1,ih _ hx.2]
theorem Tr.comm{x y:Tr}(hd:∀d,x.d=some d->y.d≠some d)(he:EA x.e y.e)(s:St):x.app (y.app s)=y.app (x.app s):=by
 simp only[Tr.app,St.mk.injEq];constructor;cases hx:x.d with
 |none=>rfl
 |some d=>
  cases hy:y.d with
  |none=>rfl
  |some d'=>have:d≠d':=λe=>hd d hx (by rw[hy,e]);simp only[fP];exact List.set_comm _ _ (Ne.symm this)
 cases hx:x.e with
 |pat r1 p1=>
  cases hy:y.e with
  |pat r2 p2=>simp only[hx,hy,EA]at he;simp only[Eff.app];exact CZ p2 p1 _ (λk hk=>(he.2 k hk).2)
  |whole h'=>simp only[hx,hy,EA]at he;rw[he.2];rfl
  |all p2=>simp only[hx,hy,EA]at he;rw[he.1];rfl
 |whole h'=>
  cases hy:y.e with
  |pat r2 p2=>simp only[hx,hy,EA]at he;rw[he.2];rfl
  |whole h2=>simp[hx,hy,EA]at he
  |all p2=>simp[hx,hy,EA]at he
 |all p1=>
  cases hy:y.e with
  |pat r2 p2=>simp only[hx,hy,EA]at he;rw[he.1];rfl
  |whole h2=>simp[hx,hy,EA]at he
  |all p2=>simp[hx,hy,EA]at he
theorem JH{b:Nat->Bool}{x:Tr}:∀{tr:List Tr}{i0:Nat}{s:St},(∀(j:Nat)(y:Tr),tr[j]?=some y->b (i0+j)=true->∀s,y.app (x.app s)=x.app (y.app s)) ->
  gP b i0 tr (x.app s)=x.app (gP b i0 tr s)
 |[],_,_,_=>rfl
 |y::l,i0,s,h=>by
  simp only[gP]
  have hr:∀s',gP b (i0+1) l (x.app s')=x.app (gP b (i0+1) l s'):=λs'=>JH (λj z hz hb s=>by
   have:=h (j+1) z (by simpa using hz);rw[Nat.add_comm j 1,<-eX]at this;exact this hb s)
  cases hb:b i0 with
  |false=>simp only[bR,aL];exact hr s
  |true=>simp only[aN];rw[h 0 y rfl (by simpa using hb) s];exact hr _
theorem QI{b c:Nat->Bool}{x:Tr}:∀{tr:List Tr}{i0 i:Nat}{s:St},tr[i]?=some x->b (i0+i)=false->c (i0+i)=true->(∀j,j≠i0+i->c j=b j) ->
  (∀(j:Nat)(y:Tr),tr[j]?=some y->i<j->b (i0+j)=true->∀s,y.app (x.app s)=x.app (y.app s))->gP c i0 tr s=x.app (gP b i0 tr s)
 |[],_,_,_,h,_,_,_,_=>by simp at h
 |y::l,i0,i,s,h,hb,hc,hj,hcm=>by
  simp only[gP];cases i with
  |zero=>
   simp at h;subst h;rw[Nat.add_zero]at hb hc;rw[hb,hc];simp only[aN,bR,aL];have e:gP c (i0+1) l (y.app s)=gP b (i0+1) l (y.app s):=rJ (λj _=>hj _ (by omega));rw[e]
   exact JH (λj z hz hb s=>by
    have:=hcm (j+1) z (by simpa using hz) (by omega);rw[Nat.add_comm j 1,<-eX]at this;exact this hb s)
  |succ i=>rw[hj i0 (by omega)];refine QI (by simpa using h) (by rw[eX,Nat.add_comm 1 i];exact hb) (by rw[eX,Nat.add_comm 1 i];exact hc) (λj q=>hj j (by omega)) ?_;intro j z hz hij hb s;have:=hcm (j+1) z (by simpa using hz) (by omega);rw[Nat.add_comm j 1,<-eX]at this;exact this hb s
theorem OT{P:Program}{num:Nm}{o:Oper}{l:List Operand}{gl:Nat->Option AV}{call:cG}{kb:Nat}{r:R}(hf:fitK P num o r.k=some l){s s2:St}{v:AV}{e:Eff}
  (h1:E7 gl call kb r s=some (v,e)) (ha:Ag r.uses e s s2):E7 gl call kb r s2=some (v,e):=by
 have hxs:r.xs.map (X.ev gl s2.env)=r.xs.map (X.ev gl s.env):=by
  apply List.map_congr_left;intro x hx;cases x with
  |t n=>simp only[X.ev];refine ha.env n ?_;unfold R.uses;exact List.mem_append_left _ (List.mem_filterMap.2 ⟨_,hx,rfl⟩)
  |_=>rfl
 have hw:wanted s2.env r.gd=wanted s.env r.gd:=by
  unfold wanted;cases hg:r.gd with
  |none=>rfl
  |some p=>obtain⟨t,b⟩:=p;simp only;rw[ha.env t (by unfold R.uses;rw[hg];exact List.mem_append_right _ (by simp))]
 unfold E7 at h1 ⊢;rw[hw,hxs];split at h1;cases h1;exact h1;have h3:=ha.hp;cases e with
 |pat rd pa=>exact Z7 hf h1 h3
 |whole h'=>simp only at h3;rw[h3];exact h1
 |all pa=>simp only at h3;rw[h3];exact h1
end
end Go.Tev
