import Derived.Test.YtmcadllokkmeiaaGreatDoorBAF
import Derived.RangeFuncLeaves
import Derived.RangeFuncRecord
import Derived.ControlIn
set_option linter.all false
namespace Go.Tev
section
open Go.RowKit
def aMu(rs:List R)(o:Oper):Nat:=
 o.after.toList.foldl (λs e=>if Region.binds .any e then s ||| 2 ^ e.on ||| ((rs[e.on]?).map R.bef).getD 0 else s) 0
def fitBef(rs:List R)(i:Nat)(o:Oper)(r:R):Bool:=
 r.bef==aMu rs o&&o.after.toList.all λe => !Region.binds .any e||decide (e.on<i)
theorem KO{rs:List R}{m:Nat}:∀{es:List Edge}{s:Nat},
  (es.foldl (λs e=>if Region.binds .any e then s ||| 2 ^ e.on ||| ((rs[e.on]?).map R.bef).getD 0 else s) s).testBit m=true ->
  s.testBit m=true\/∃e∈es,Region.binds .any e=true/\(e.on=m\/∃r,rs[e.on]?=some r/\r.bef.testBit m=true)
 |[],s,h => .inl h
 |e::es,s,h=>by
  simp only[List.foldl_cons]at h;rcases KO h with h|⟨e',h1,h2,h3⟩
  split at h;rename_i hb;simp only[Nat.testBit_or,Bool.or_eq_true,Nat.testBit_two_pow,aR]at h;rcases h with (h|h)|h;exact .inl h;exact .inr ⟨e,by simp,hb,.inl h⟩;cases hr:rs[e.on]? with
  |none=>simp[hr]at h
  |some r=>exact .inr ⟨e,by simp,hb,.inr ⟨r,hr,by simpa[hr] using h⟩⟩
  exact .inl h;exact .inr ⟨e',dY _ h1,h2,h3⟩
theorem xP{a b:List Nat}(h:B7 a b=true):∀k∈a,k ∉ b:=by intro k hk hb;simp only[B7,eT,eA]at h;have:=h k hk;simp[hb]at this
theorem Eff.apart_spec{x y:Eff}(h:x.apart y=true):EA x y:=by unfold Eff.apart at h;split at h;simp only[aF]at h;obtain⟨h1,h2⟩:=h;have h1:=xP h1;have h2:=xP h2;refine⟨λk hk=>?_,λk hk=>⟨h2 k hk,λhk1=>h1 k hk1 (List.mem_append_right _ hk)⟩⟩;have:=h1 k hk;simp only[jM,not_or]at this;exact this;exact⟨rfl,rfl⟩;exact⟨rfl,rfl⟩;exact⟨rfl,xP h⟩;exact⟨rfl,xP h⟩;cases h
theorem R.apart_spec{x y:R}(h:x.apart y=true):(∀d,x.d=some d->d ∉ y.uses/\y.d≠some d)/\(∀d,y.d=some d->d ∉ x.uses):=by refine⟨λd hd=>?_,λd hd=>?_⟩<;>simp[R.apart,hd]at h;exact⟨h.1.1,h.1.2⟩;exact h.2
theorem x8{i:Nat}{x:R}{e:Eff}:∀{rs:List R}{es:List Eff},kC i x e rs es=true->∀(b:Nat)(r:R)(f:Eff),rs[b]?=some r->es[b]?=some f ->
  r.bef.testBit i=true\/(x.apart r=true/\e.apart f=true)
 |[],_,_,b,r,f,h1,_=>by simp at h1
 |_::_,[],_,b,r,f,_,h2=>by simp at h2
 |r0::rs,f0::es,h,b,r,f,h1,h2=>by
  simp only[kC,aF,Bool.or_eq_true]at h;cases b with
  |zero=>simp at h1 h2;subst h1 h2;exact h.1
  |succ b=>exact x8 h.2 b r f (by simpa using h1) (by simpa using h2)
theorem A8:∀{rs:List R}{es:List Eff}{i0:Nat},i7 i0 rs es=true->∀(a b:Nat)(ra rb:R)(ea eb:Eff),a<b->rs[a]?=some ra->rs[b]?=some rb->es[a]?=some ea->es[b]?=some eb ->
  rb.bef.testBit (i0+a)=true\/(ra.apart rb=true/\ea.apart eb=true)
 |[],_,_,_,a,b,ra,rb,ea,eb,_,h1,_,_,_=>by simp at h1
 |_::_,[],_,_,a,b,ra,rb,ea,eb,_,_,_,h3,_=>by simp at h3
 |r0::rs,f0::es,i0,h,a,b,ra,rb,ea,eb,hab,h1,h2,h3,h4=>by
  simp only[i7,aF]at h;cases b with
  |zero=>omega
  |succ b=>
   cases a with
   |zero=>simp at h1 h3;subst h1 h3;exact x8 h.1 b rb eb (by simpa using h2) (by simpa using h4)
   |succ a=>have:=A8 h.2 a b ra rb ea eb (by omega) (by simpa using h1) (by simpa using h2) (by simpa using h3) (by simpa using h4);rwa [Nat.add_comm a 1,<-eX]
theorem QY{p q:Nat->Bool}:∀{l:List Nat},(∀x∈l,q x=true->p x=true)->(∃x∈l,p x=true/\q x=false)->l.countP q<l.countP p
 |[],_,h=>by obtain⟨x,hx,_⟩:=h;cases hx
 |y::l,h1,h2=>by have hr:∀x∈l,q x=true->p x=true:=λx hx=>h1 x (dY _ hx);have hle:l.countP q<=l.countP p:=List.countP_mono_left hr;obtain⟨x,hx,hp,hq⟩:=h2;simp only[List.countP_cons];have hy:=h1 y (by simp);rcases dA.1 hx with rfl|hx;simp[hp,hq];omega;have:=QY hr ⟨x,hx,hp,hq⟩;cases hqy:q y<;>cases hpy:p y<;>simp[hqy,hpy]at hy ⊢ <;> omega
section
variable{P:Program}{num:Nm}{gl:Nat->Option AV}{bE:Nat->Nat}{call:cG}{Fb:Nat->Prop}{B0:Nat}{ρ0:Rho}{w0:World}{O0:Nat->Prop}
def sG(n:Nat)(L:Array Bool):Nat:=(List.range n).countP λi => !L.getD i false
theorem BP{ops:Array Oper}{L:Array Bool}(hL:L.size=ops.size){i:Nat}:i∈Region.ready .any ops L ↔
  L.getD i false=false/\∃o,ops[i]?=some o/\∀e∈o.after,Region.binds .any e=true->L.getD e.on false=true:=by
 unfold Region.ready;simp only[List.mem_filter,List.mem_range,aF,eA];have hd:∀i,i<ops.size->L.getD i true=L.getD i false:=by
  intro i hi;have:i<L.size:=by omega
  simp[this]
 constructor;rintro⟨h1,h2,h3⟩;have hi:ops[i]?=some ops[i]:=by simp[h1]
 rw[hi]at h3;simp only[Option.map_some,Option.getD_some,Array.all_eq_true_iff_forall_mem,Bool.or_eq_true,eA]at h3;refine⟨by rw[<-hd i h1];exact h2,ops[i],hi,?_⟩;intro e he hb;rcases h3 e he with h|h;rw[h]at hb;cases hb;exact h;rintro⟨h1,o,ho,h3⟩;have hi:i<ops.size:=(rU.1 ho).1;refine⟨hi,by rw[hd i hi];exact h1,?_⟩;rw[ho];simp only[Option.map_some,Option.getD_some,Array.all_eq_true_iff_forall_mem,Bool.or_eq_true,eA];intro e he;cases hb:Region.binds .any e with
 |false=>exact .inl rfl
 |true=>exact .inr (h3 e he hb)
theorem UZ{ro:Option Nat}(hc:rT P num gl bE call){kb:Nat}{ops:Array Oper}{rs:List R}{st st':St}{es:List Eff}{Q:Exit->Act->World->Prop}(hlen:rs.length=ops.size)
  (hfit:∀(i:Nat)(o:Oper)(r:R),ops[i]?=some o->rs[i]?=some r->fitR P num bE ops o r=true/\fitBef rs i o r=true)
  (hT:lO gl call kb rs st=some (st',es)) (hA:i7 0 rs es=true)
  (hK:∀a' w',lW num gl bE Fb B0 ρ0 w0 O0 st' a' w'->Q .normal a' w') {a:Act} {w:World} (hG:lW num gl bE Fb B0 ρ0 w0 O0 st a w) :
  wpAnyIn (FW ro) 0 P .any ops Q ops.size (Array.replicate ops.size false) a w:=by
 obtain⟨tr,t1,t2,t3,t4⟩:=PJ (i0:=0) hT;have hrs:∀i,i<ops.size->∃o r x,ops[i]?=some o/\rs[i]?=some r/\tr[i]?=some x/\es[i]?=some x.e:=by
  intro i hi;have h1:i<rs.length:=by omega
  have h2:i<tr.length:=by omega
  refine⟨ops[i],rs[i],tr[i],by simp[hi],by simp[h1],by simp[h2],?_⟩;rw[<-t2 i];simp[h2]
 have hap:∀(i j:Nat)(ri rj:R)(xi xj:Tr),i<j->rs[i]?=some ri->rs[j]?=some rj->tr[i]?=some xi->tr[j]?=some xj ->
   rj.bef.testBit i=true\/((∀d,xi.d=some d->d ∉ rj.uses/\xj.d≠some d)/\(∀d,xj.d=some d->d ∉ ri.uses)/\EA xi.e xj.e):=by
  intro i j ri rj xi xj hij h1 h2 h3 h4;have e1:es[i]?=some xi.e:=by rw[<-t2 i,h3];rfl
  have e2:es[j]?=some xj.e:=by rw[<-t2 j,h4];rfl
  rcases A8 hA i j ri rj _ _ hij h1 h2 e1 e2 with h|⟨h,h'⟩
  left;simpa using h;right;obtain⟨p1,p2⟩:=R.apart_spec h;have d1:=(t4 i ri xi h1 h3).1;have d2:=(t4 j rj xj h2 h4).1;rw[d1,d2];exact⟨p1,p2,Eff.apart_spec h'⟩
 have main:∀(fuel:Nat)(L:Array Bool)(a:Act)(w:World),L.size=ops.size ->
   (∀(j:Nat)(r:R),L.getD j false=true->rs[j]?=some r->∀m,r.bef.testBit m=true->L.getD m false=true) ->
   sG ops.size L<=fuel->lW num gl bE Fb B0 ρ0 w0 O0 (gP (λi=>L.getD i false) 0 tr st) a w->wpAnyIn (FW ro) 0 P .any ops Q fuel L a w:=by
  have hall:∀L:Array Bool,L.size=ops.size->Region.ready .any ops L=[]->∀i,i<ops.size->L.getD i false=true:=by
   intro L hL hr i
   induction i using Nat.strongRecOn with
   |ind i ih=>
    intro hi;cases hb:L.getD i false with
    |true=>rfl
    |false=>
     exfalso;obtain⟨o,r,x,h1,h2,_,_⟩:=hrs i hi;have hf:=(hfit i o r h1 h2).2;simp only[fitBef,aF,eT,Bool.or_eq_true,eA,aR]at hf
     have:i∈Region.ready .any ops L:=(BP hL).2 ⟨hb,o,h1,λe he hbi=>by
      rcases hf.2 e (by simpa using he) with h|h;rw[h]at hbi;cases hbi;exact ih e.on h (by omega)⟩
     rw[hr]at this;cases this
  have hend:∀(L:Array Bool)(a:Act)(w:World),L.size=ops.size->(∀i,i<ops.size->L.getD i false=true)->lW num gl bE Fb B0 ρ0 w0 O0 (gP (λi=>L.getD i false) 0 tr st) a w->Q .normal a w:=by
   intro L a w hL h hG
   have e:gP (λi=>L.getD i false) 0 tr st=gP (λ_=>true) 0 tr st:=rJ (λj hj=>by
    rw[bF];exact h j (by omega))
   rw[e,t3]at hG;exact hK _ _ hG
  intro fuel
  induction fuel with
  |zero=>
   intro L a w hL _ hu hG;have hal:∀i,i<ops.size->L.getD i false=true:=by
    intro i hi;have h0:sG ops.size L=0:=by omega
    unfold sG at h0;rw[List.countP_eq_zero]at h0;have:=h0 i (by simp[hi]);simpa using this
   refine⟨?_,hend L a w hL hal hG⟩;rw[List.eq_nil_iff_forall_not_mem];intro i hi;obtain⟨h1,o,h2,_⟩:=(BP hL).1 hi;have:=hal i (rU.1 h2).1;rw[this]at h1;cases h1
  |succ fuel ih=>
   intro L a w hL hcl hu hG;refine⟨λhr=>hend L a w hL (hall L hL hr) hG,?_⟩;intro i hir;obtain⟨hLi,o,ho,hbe⟩:=(BP hL).1 hir;have hi:i<ops.size:=(rU.1 ho).1;obtain⟨o',r,x,h1,h2,h3,h4⟩:=hrs i hi;rw[ho]at h1;cases h1;obtain⟨hf1,hf2⟩:=hfit i o r ho h2;have hbl:∀m,r.bef.testBit m=true->L.getD m false=true:=by
    intro m hm;simp only[fitBef,aF,beq_iff_eq]at hf2;rw[hf2.1]at hm;rcases KO hm with h|⟨e,he,hb,h⟩
    simp at h;have hon:=hbe e (by simpa using he) hb;rcases h with rfl|⟨r',hr',hm'⟩
    exact hon;exact hcl e.on r' hon hr' m hm'
   obtain⟨hd,hv⟩:=t4 i r x h2 h3;have hfk:∃l,fitK P num o r.k=some l:=by unfold fitR at hf1;simp only[aF]at hf1;have:=hf1.1.2;split at this;exact⟨_,by assumption⟩;cases this
   obtain⟨l,hfk⟩:=hfk
   have hag:Ag r.uses x.e (gP (λj=>decide (j<0+i)) 0 tr st) (gP (λj=>L.getD j false) 0 tr st):=by
    refine YX (Ag.refl _ _ _) ?_;intro j y hy s s2 hA;refine⟨λ_ _=>hA.both y,?_,?_⟩;intro hb hcf;simp only[bF,aR]at hb hcf;have hj:j<ops.size:=by omega
    obtain⟨_,rj,_,_,hrj,_,_⟩:=hrs j hj;rcases hap j i rj r y x hb hrj h2 hy h3 with h|⟨p1,p2,p3⟩
    rw[hbl j h]at hcf;cases hcf;exact hA.onlyL y (λd q=>(p1 d q).1) p3.symm;intro hb hcf;simp only[bF,eJ]at hb hcf;have hj:j<ops.size:=by have:=(cJ.1 hy).1;omega
    obtain⟨_,rj,_,_,hrj,_,_⟩:=hrs j hj;have hne:i≠j:=by intro q;subst q;rw[hLi]at hcf;cases hcf
    rcases hap i j r rj x y (by omega) h2 hrj h3 hy with h|⟨p1,p2,p3⟩
    have:=hcl j rj hcf hrj i h;rw[hLi]at this;cases this;exact(hA.symm.onlyL y p2 p3).symm
   have hs:=OT hfk hv hag
   have hstep:lM gl call kb r (gP (λj=>L.getD j false) 0 tr st)=some (x.app (gP (λj=>L.getD j false) 0 tr st),x.e):=by rw[OU,hs];simp only[Option.map_some,<-hd]
   have hget:∀j,(L.setIfInBounds i true).getD j false=if j=i then true else L.getD j false:=by
    intro j;have:i<L.size:=by omega
    simp only[Array.getD_eq_getD_getElem?,Array.getElem?_setIfInBounds];by_cases q:i=j;subst q;simp[this];have q':¬j=i:=λe=>q e.symm;rw[if_neg q,if_neg q']
   refine yD hc ho hf1 hG hstep ?_;intro a' w' hG';refine ih _ a' w' (by simp[hL]) ?_ ?_ ?_;intro j rj hj hrj m hm;rw[hget]at hj ⊢;split;rfl;split at hj;rename_i q;subst q;rw[h2]at hrj;cases hrj;exact hbl m hm;exact hcl j rj hj hrj m hm;have:sG ops.size (L.setIfInBounds i true)<sG ops.size L:=by refine QY ?_ ⟨i,by simp[hi],by simp[hLi],by simp[hget]⟩;intro y _ hy;rw[hget]at hy;split at hy;simp at hy;exact hy
   omega
   have e:gP (λj=>(L.setIfInBounds i true).getD j false) 0 tr st=x.app (gP (λj=>L.getD j false) 0 tr st):=by
    refine QI (i:=i) h3 (by simpa using hLi) (by rw[bF];simp[hget]) ?_ ?_;intro j hj;rw[hget,if_neg (by omega)];intro j y hy hij hb s;rw[bF]at hb;have hj:j<ops.size:=by have:=(cJ.1 hy).1;omega
    obtain⟨_,rj,_,_,hrj,_,_⟩:=hrs j hj;rcases hap i j r rj x y hij h2 hrj h3 hy with h|⟨p1,p2,p3⟩
    have:=hcl j rj hb hrj i h;rw[hLi]at this;cases this;exact(Tr.comm (λd q=>(p1 d q).2) p3 s).symm
   rw[e];exact hG'
 refine main ops.size _ a w (by simp) ?_ ?_ ?_;intro j r hj;simp[Array.getElem?_replicate]at hj;split at hj<;>simp at hj;unfold sG;refine Nat.le_trans List.countP_le_length ?_;simp
 have e:gP (λi=>(Array.replicate ops.size false).getD i false) 0 tr st=st:=zD (λj _=>by
  simp[Array.getElem?_replicate];split<;>rfl)
 rw[e];exact hG
end
end
section
open Go.RowKit
theorem Rv.world{num:Nm}{ρ : Rho}{w w':World}{F:Nat->Prop}{v:AV}{c:Value}(h:Rv num ρ w F v c)(hc:∀b off,w'.cell? ⟨b,off,none⟩=w.cell? ⟨b,off,none⟩)(hs:w.heap.size<=w'.heap.size) :
  Rv num ρ w' F v c:=by
 induction h with
 |top c=>exact .top c
 |bool b=>exact .bool b
 |int k n=>exact .int k n
 |str s=>exact .str s
 |nilp=>exact .nilp
 |nilm=>exact .nilm
 |nilf=>exact .nilf
 |nili=>exact .nili
 |agg cs vs hl _ ih=>exact .agg cs vs hl ih
 |tup cs vs hl _ ih=>exact .tup cs vs hl ih
 |nsl cl=>exact .nsl cl
 |sl es cl b off cap sz c hc' hcl hF hz hm _ sp hsp ih=>exact .sl es cl b off cap sz c hc' hcl (λhne=>⟨(hF hne).1,Nat.lt_of_lt_of_le (hF hne).2 hs⟩) hz (λn hn=>(hc b (off+n)).trans (hm n hn)) ih sp hsp
 |fp v b off c hF hb hm _ ih=>exact .fp v b off c hF (Nat.lt_of_lt_of_le hb hs) (λn hn=>(hc b (off+n)).trans (hm n hn)) ih
 |rf k e off len cap cap' L hL hlen hcap ht hroom=>exact .rf k e off len cap cap' L hL hlen hcap ht hroom
 |pt k e off L hL=>exact .pt k e off L hL
 |mp k e L hL=>exact .mp k e L hL
 |yl k e L hL=>exact .yl k e L hL
 |fn f cs vs hl _ ih=>exact .fn f cs vs hl ih
 |ifc v t c _ ih=>exact .ifc v t c ih
section
variable{P:Program}{num:Nm}{gl:Nat->Option AV}{bE:Nat->Nat}{Fb:Nat->Prop}{B0:Nat}{ρ : Rho}{w:World}{O:Nat->Prop}{h:Hp}
theorem KL{D:Nat}{x y:Option (List Deferred)}(hD:w.heap[D]?=some (.deferred x))(b off:Nat):(w.putObj D (.deferred y)).cell? ⟨b,off,none⟩=w.cell? ⟨b,off,none⟩:=by
 by_cases hb:b=D;subst hb;have hlt:b<w.heap.size:=(rU.1 hD).1;have h2:(w.putObj b (.deferred y)).heap[b]?=some (.deferred y):=by simp[World.putObj,hlt]
 simp only[World.cell?,hD,h2];exact pT (World.putObj_heap_other hb)
theorem HpR.shut{D:Nat}{x y:Option (List Deferred)}(H:HpR num Fb B0 ρ w O h)(hD:w.heap[D]?=some (.deferred x)):HpR num Fb B0 ρ (w.putObj D (.deferred y)) O h:=by
 have hc:=KL (w:=w) (y:=y) hD;have ho:∀{b:Nat}{o:Obj},w.heap[b]?=some o->(∀z,o ≠ .deferred z)->(w.putObj D (.deferred y)).heap[b]?=some o:=by intro b o hb hn;rw[World.putObj_heap_other (λe=>by subst e;rw[hD]at hb;cases hb;exact hn _ rfl)];exact hb
 have hs:w.heap.size<=(w.putObj D (.deferred y)).heap.size:=by simp
 exact {
  blk:=λk e cs esz ag ti fz hg=>by obtain⟨L,c,T,q1,q2,q3,q4,q5,q6,q7,q8⟩:=H.blk _ _ _ _ _ _ _ hg;refine⟨L,c,T,q1,q2,q3,ho q4 (λz e=>by cases e),q5,q6,λi x hx=>?_,q8⟩;obtain⟨z,z1,z2⟩:=q7 i x hx;exact⟨z,z1,z2.world hc hs⟩
  mpo:=λk e es bs ck hg=>by obtain⟨L,c,T,q1,q2,q3,q4,q5⟩:=H.mpo _ _ _ _ _ hg;refine⟨L,c,T,q1,ho q2 (λz e=>by cases e),q3,λi x y hx hy=>?_,q5⟩;obtain⟨z1,z2,z3⟩:=q4 i x y hx hy;exact⟨z1.world hc hs,z2.world hc hs,z3⟩
  lpo:=λk e st b env ps ca cb hg=>by obtain⟨L,r,q1,q2,q3,q4,q5,q6,q7⟩:=H.lpo _ _ _ _ _ _ _ _ hg;exact⟨L,r,q1,ho q2 (λz e=>by cases e),q3,q4,q5,λi x y hx hy=>(q6 i x y hx hy).world hc hs,q7⟩
  ito:=λk e mk me since seen last hg=>by obtain⟨L,Lm,q1,q2,q3,q4⟩:=H.ito _ _ _ _ _ _ _ hg;exact⟨L,Lm,q1,q2,ho q3 (λz e=>by cases e),q4⟩
  inj:=H.inj
  ep:=H.ep
  own:=λb hb=>by simpa using H.own b hb
  fbl:=H.fbl
  le:=Nat.le_trans H.le hs}
theorem IJ{F:Nat->Prop}:∀{ps:List Nat}{avs:List AV}{vs:List Value}{env:List AV}{tmps:Array Value},bA (Rv num ρ w F) avs vs->env.length=tmps.size ->
  (∀(t:Nat)(x:AV)(y:Value),env[t]?=some x->tmps[t]?=some y->Rv num ρ w F x y)->ps.length=avs.length ->
  (vL env ps avs).length=((ps.zip vs).foldl (λt (p:Nat×Value)=>t.setIfInBounds p.1 p.2) tmps).size /\
  ∀(t:Nat)(x:AV)(y:Value),(vL env ps avs)[t]?=some x->((ps.zip vs).foldl (λt (p:Nat×Value)=>t.setIfInBounds p.1 p.2) tmps)[t]?=some y->Rv num ρ w F x y
 |[],_,_,env,tmps,_,h1,h2,_=>by simp only[vL,List.zip_nil_left,List.foldl_nil];exact⟨h1,h2⟩
 |p::ps,[],_,_,_,_,_,_,h3=>by cases h3
 |p::ps,a::avs,_,env,tmps,.cons (b:=c) (m:=vs) hv hvs,h1,h2,h3=>by simp only[vL,List.zip_cons_cons,List.foldl_cons];refine IJ hvs (by simp[h1]) ?_ (by simpa using h3);have:=vF.put (num:=num) (ρ := ρ) (w:=w) (F:=F) (env:=env) (a:={tmps:=tmps,defers:=[]}) ⟨h1,h2,trivial⟩ hv (some p);exact this.get
end
end
section
open Go.RowKit
def fitRs(P:Program)(num bE:Nat->Nat)(ops:Array Oper)(dr:Bool)(all:List R):Nat->List Oper->List R->Bool
 |_,[],[]=>true
 | i,o::os,r::rs=>fitR P num bE ops o r&&(!dr||fitBef all i o r)&&fitRs P num bE ops dr all (i+1) os rs
 |_,_,_=>false
def tY:C->Bool
 |.seq a b|.cond _ a b=>tY a&&tY b
 |.block _ a|.loop a _|.mr _ _ _ _ a _=>tY a
 |.rf .. => false
 |_=>true
def fitNx(P:Program)(num bE:Nat->Nat)(it nx more:Nat)(ops:Array Oper):Bool:=
 match ops.toList with
 |[o1,o2]=>(match o1.op with|.next (.tmp t) false=>t==it|_=>false)&&o1.dst==some nx&&o1.guard.isNone&&fitR P num bE ops o2 {d:=some more,k:=.ext 0,xs:=[.t nx]}
 |_=>false
def fitC(P:Program)(num bE:Nat->Nat):C->Code->Bool
 |.skip,.skip=>true
 |.reg rs d,.region _ ops d'=>d==d'&&fitRs P num bE ops d rs 0 ops.toList rs
 |.seq a b,.seq x y=>fitC P num bE a x&&fitC P num bE b y
 |.cond c a b,.cond o x y=>fitX num bE c o&&fitC P num bE a x&&fitC P num bE b y
 |.block id a,.block id' x=>id==id'&&fitC P num bE a x
 |.loop a _,.loop x=>fitC P num bE a x
 |.exit id,.exit id'=>id==id'
 |.ret,.ret=>true
 |.rf x _ ps a b,.rangeFunc g ps' c d=>fitX num bE x g&&ps==ps'.toList&&fitC P num bE a c&&fitC P num bE b d&&tY a&&tY b
 |.mr it nx more out b _,.loop y=>(match y with
  |.seq (.region _ ops false) (.seq (.cond (.tmp m) .skip (.exit o)) z)=>fitNx P num bE it nx more ops&&m==more&&o==out&&fitC P num bE b z
  |_=>false)
 |.bad,_=>true
 |_,_=>false
def fitRes(P:Program):List (Sum Nat (Nat×Nat×Bool))->List ResultVar->Bool
 |[],[]=>true
 |.inl t::r,.tmp u::s=>t==u&&fitRes P r s
 |.inr (t,sz,ag)::r,.cell u ty::s=>t==u&&fitT P ty sz ag&&fitRes P r s
 |_,_=>false
def fitF(P:Program)(num bE:Nat->Nat)(cf:CF)(fn:Func):Bool:=
 match fn.body with
 |some c=>fitC P num bE cf.body c&&fn.ntmps==cf.nt&&fn.name != "runtime.NumGoroutine" && fitRes P cf.res fn.results.toList
 |none=>false
def US:Ex->Exit
 |.nor => .normal
 |.ext id => .exit id
 |.ret => .ret
section
variable{P:Program}{num:Nm}{gl:Nat->Option AV}{bE:Nat->Nat}{call:cG}{Fb:Nat->Prop}{B0:Nat}{ρ0:Rho}{w0:World}{O0:Nat->Prop}
theorem fitRs_get{ops:Array Oper}{dr:Bool}{all:List R}:∀{i:Nat}{os:List Oper}{rs:List R},fitRs P num bE ops dr all i os rs=true ->
  rs.length=os.length/\∀(j:Nat)(o:Oper)(r:R),os[j]?=some o->rs[j]?=some r->fitR P num bE ops o r=true/\(dr=true->fitBef all (i+j) o r=true)
 |_,[],[],_=>⟨rfl,by intro j o r h;simp at h⟩
 |_,[],_::_,h=>by simp[fitRs]at h
 |_,_::_,[],h=>by simp[fitRs]at h
 |i,o0::os,r0::rs,h=>by
  simp only[fitRs,aF,Bool.or_eq_true,eA]at h;obtain⟨h1,h2⟩:=fitRs_get h.2;refine⟨by simp[h1],?_⟩;intro j o r ho hr;cases j with
  |zero=>
   simp at ho hr;subst ho hr
   exact⟨h.1.1,λq=>by
    rcases h.1.2 with h|h;rw[q]at h;cases h;exact h⟩
  |succ j=>
   obtain⟨q1,q2⟩:=h2 j o r (by simpa using ho) (by simpa using hr)
   exact⟨q1,λq=>by
    have:=q2 q;rwa [eX,Nat.add_comm 1 j]at this⟩
theorem FM{ro:Option Nat}(hc:rT P num gl bE call){kb:Nat}{ops:Array Oper}{Q:Exit->Act->World->Prop}:∀{rs:List R}{i:Nat}{st st':St}{a:Act}{w:World},
  tQ gl call kb rs st=some st'->(∀(j:Nat)(r:R),rs[j]?=some r->∃o,ops[i+j]?=some o/\fitR P num bE ops o r=true) ->
  lW num gl bE Fb B0 ρ0 w0 O0 st a w->(∀a' w',lW num gl bE Fb B0 ρ0 w0 O0 st' a' w'->Q .normal a' w')->wpOpsIn (FW ro) 0 P ops Q (List.range' i rs.length) a w
 |[],i,st,st',a,w,h,_,hG,hK=>by simp[tQ]at h;subst h;exact hK a w hG
 |r::rs,i,st,st',a,w,h,hf,hG,hK=>by
  unfold tQ at h;split at h
  case h_2=>cases h
  rename_i st1 e hs;simp only[List.length_cons,List.range'_succ,wpOpsIn_cons];obtain⟨o,ho,hfo⟩:=hf 0 r rfl;refine yD hc (by simpa using ho) hfo hG hs ?_;intro a' w' hG';refine FM hc h ?_ hG' hK;intro j r' hr';obtain⟨o',q1,q2⟩:=hf (j+1) r' (by simpa using hr');exact⟨o',by rw[eX,Nat.add_comm 1 j];exact q1,q2⟩
theorem B9:∀{m:List Bool}{env:List AV}{t:Nat}{x:AV},(clear m env)[t]?=some x->x = .top\/env[t]?=some x
 |[],env,t,x,h=>by cases env<;>simp[clear]at h ⊢ <;> exact .inr h
 |b::m,[],t,x,h=>by cases b<;>simp[clear]at h
 |b::m,v::r,t,x,h=>by
  cases b with
  |true=>
   simp only[clear]at h;cases t with
   |zero=>right;simpa using h
   |succ t=>rcases B9 (m:=m) (env:=r) (t:=t) (x:=x) (by simpa using h) with q|q;exact .inl q;right;simpa using q
  |false=>
   simp only[clear]at h;cases t with
   |zero=>left;simpa using h.symm
   |succ t=>rcases B9 (m:=m) (env:=r) (t:=t) (x:=x) (by simpa using h) with q|q;exact .inl q;right;simpa using q
theorem nA:∀(m:List Bool)(env:List AV),(clear m env).length=env.length
 |[],env=>by cases env<;>simp[clear]
 |b::m,[]=>by cases b<;>simp[clear]
 |b::m,v::r=>by cases b<;>simp[clear,nA m r]
theorem lW.clear{st:St}{a:Act}{w:World}(h:lW num gl bE Fb B0 ρ0 w0 O0 st a w)(m:List Bool):lW num gl bE Fb B0 ρ0 w0 O0 ⟨clear m st.env,st.hp⟩ a w:=by obtain⟨ρ,O,h1,h2,h3,h4,h5⟩:=h;refine⟨ρ,O,h1,h2,h3,⟨by simp only[nA];exact h4.size,?_,h4.defers⟩,h5⟩;intro t x y hx hy;rcases B9 hx with rfl|q;exact .top _;exact h4.get t x y q hy
theorem OI{ro:Option Nat}{c:Code}{Q:Exit->Act->World->Prop}(I:Nat->Act->World->Prop)
  (round:∀n a w,I n a w->c.wpIn (FW ro) 0 P (Exit.then (λa' w'=>∃m,m<n/\I m a' w') Q) a w) {n:Nat} {a:Act} {w:World} (h0:I n a w):(Code.loop c).wpIn (FW ro) 0 P Q a w:=by
 have least:∀(a:Act)(w:World),(∃n,I n a w)->∃n,I n a w/\∀m,I m a w->n<=m:=by
  intro a w ⟨n,hn⟩
  induction n using Nat.strongRecOn with
  |ind n ih=>
   by_cases h:∃m,m<n/\I m a w;obtain⟨m,h1,h2⟩:=h;exact ih m h1 h2
   exact⟨n,hn,λm hm=>by
    rcases eS m n with q|q;exact absurd ⟨m,q,hm⟩ h;exact q⟩
 let μ : Act->World->Nat:=λa w=>open Classical in if h:∃n,I n a w then (least a w h).choose else 0
 refine wpIn_loop (λa w=>∃n,I n a w) μ ⟨n,h0⟩ ?_;intro a w h;have hspec:=(least a w h).choose_spec;refine wpIn_mono (round _ a w hspec.1) ?_;intro e a' w' hq;cases e<;>simp only[Exit.then]at hq ⊢ <;> try exact hq
 obtain⟨m,hm,hI⟩:=hq;refine⟨⟨m,hI⟩,?_⟩;have hspec':=(least a' w' ⟨m,hI⟩).choose_spec;have:=hspec'.2 m hI;show μ a' w' < μ a w;have e1 : μ a w=(least a w h).choose:=by simp only[μ];rw[dif_pos h]
 have e2 : μ a' w'=(least a' w' ⟨m,hI⟩).choose:=by simp only[μ];rw[dif_pos ⟨m,hI⟩]
 rw[e1,e2];omega
theorem HO{α : Type}{eq : α -> α -> Bool}(he:∀x y,eq x y=true->x=y){f:Nat->Option α}{r : α}:∀{l:List Nat},mE eq f l=some r->∀b∈l,f b=some r
 |[],h=>by simp[mE]at h
 |[b],h=>by intro b' hb';simp at hb';subst hb';exact h
 |b::b2::l,h=>by
  simp only[mE]at h;split at h
  case h_2=>cases h
  rename_i r1 s1 h1 h2;split at h
  case isFalse=>cases h
  rename_i hq;cases h;have:=he _ _ hq;subst this;intro b' hb';rcases dA.1 hb' with rfl|hb';exact h1;exact HO he h2 b' hb'
theorem GR:∀{x y:Hp},UV x y=true->x=y
 |[],[],_=>rfl
 |[],_::_,h=>by simp[UV]at h
 |_::_,[],h=>by simp[UV]at h
 |x::r,y::s,h=>by simp only[UV,aF,beq_iff_eq]at h;have h1:=GO h.1.2;have h2:=GR h.2;obtain⟨k,e,o⟩:=x;obtain⟨k',e',o'⟩:=y;obtain⟨⟨⟨rfl,rfl⟩,_⟩,_⟩:=h;simp only at h1;rw[h1,h2]
theorem aAu{x y:Ex×St}(h:eqR x y=true):x=y:=by simp only[eqR,aF,aR]at h;obtain⟨x1,e1,h1⟩:=x;obtain⟨y1,e2,h2⟩:=y;obtain⟨⟨q1,q2⟩,q3⟩:=h;simp only at q1 q2 q3;rw[q1,jE _ _ q2,GR q3]
theorem lW.killI{st:St}{a:Act}{w:World}{k e:Nat}{h:Hp}(hG:lW num gl bE Fb B0 ρ0 w0 O0 st a w)(hk:killI st.hp k e=some h):lW num gl bE Fb B0 ρ0 w0 O0 ⟨st.env,h⟩ a w:=by
 obtain⟨ρ,O,h1,h2,h3,h4,h5⟩:=hG;unfold Tev.killI at hk;split at hk
 case h_2=>cases hk
 rename_i hg;split at hk
 case isFalse=>cases hk
 rename_i he;cases hk;subst he;exact⟨ρ,O,h1,h2.kill hg,h3,h4,h5⟩
theorem I8{c:Array MapEntry}{seen bs:List Nat}(hb:c.toList.map MapEntry.born=bs):(leftOf c seen.toArray).toList.map MapEntry.born=aCh bs seen:=by subst hb;simp only[leftOf,aCh,Array.toList_filter,List.filter_map];congr 1;apply List.filter_congr;intro x _;simp
theorem TY{ro:Option Nat}{i it nx k e:Nat}{ops:Array Oper}{o:Oper}{st:St}{l:List Nat}{ob:Nat->Ob}{a:Act}{w:World}(hi:ops[i]?=some o)(ho:o.op = .next (.tmp it) false)(hd:o.dst=some nx)(hgd:o.guard=none)
  (hG:lW num gl bE Fb B0 ρ0 w0 O0 st a w) (hit:jT st.env it = .pt k e 0) (hx:YK st.hp k e=some (l,ob)) {K:Act->World->Prop} {Q:Exit->Act->World->Prop}
  (h0:l=[]->∀a' w',lW num gl bE Fb B0 ρ0 w0 O0 ⟨fP st.env (some nx) (.tup [.bool false]),st.hp⟩ a' w'->K a' w')
  (h1:∀b∈l,∀a' w',lW num gl bE Fb B0 ρ0 w0 O0 ⟨fP st.env (some nx) (.tup [.bool true,.top,.top]),st.hp.put k e (ob b)⟩ a' w'->K a' w'):wpOpIn (FW ro) 0 P ops Q i K a w:=by
 obtain⟨ρ,O,ev0,H,hg,he,hmk⟩:=hG;unfold YK at hx;split at hx
 case h_2=>cases hx
 rename_i e' mk me since seen last hgk;split at hx
 case isFalse=>cases hx
 rename_i hee;subst hee;split at hx
 case h_2=>cases hx
 rename_i e2 es bs ck hgm;split at hx
 case isFalse=>cases hx
 rename_i hc;obtain⟨rfl,hall,hsl⟩:=hc;cases hx;have ht:=he.tmp it;rw[hit]at ht;obtain⟨L,hp,hL⟩:=ht.of_pt;obtain⟨L1,Lm,q1,q2,q3,q4,q5,q6⟩:=H.ito _ _ _ _ _ _ _ hgk;rw[hL]at q1;cases q1;obtain⟨c,hh,hal,hbo⟩:=H.all2M hgm q2;have hold:∀x∈c.toList,x.born<since:=by
  intro x hx;have:x.born∈bs:=by rw[<-hbo];exact List.mem_map.2 ⟨x,hx,rfl⟩
  simpa using eT.1 hall _ this
 have hnd:∀c,o.op ≠ .defer c:=by intro c hc;rw[ho]at hc;cases hc
 have hpe:a.eval (.tmp it) = .pointer (some ⟨L.b,0,none⟩):=by show a.tmps.getD it undef=_;rw[hp,q4]
 unfold wpOpIn;rw[hi];have hw:Region.wanted o (yielded ops a.tmps)=true:=by simp[Region.wanted,hgd]
 simp only[hw,aN];refine⟨λ_ _=>trivial,?_⟩;rw[Oper.semAt_eq _ _ _ hnd];rcases run_next_at (P:=P) w o.type L.b Lm.b since last seen.toArray c ck q3 hh hold hsl with ⟨z0,hrun⟩|⟨x,hxm,w1,hw1,hrun⟩
 have hr:(execOp a.eval o).run P w = .ok (.value (.tuple #[.bool false])) w:=by simp only[execOp,ho,hpe];simp[hrun,Result.andThen]
 rw[hr];refine h0 ?_ _ _ ⟨ρ,O,ev0,H,hg,?_,by rw[uH];exact hmk⟩;rw[<-I8 hbo];have:(leftOf c seen.toArray).toList=[]:=by have:(leftOf c seen.toArray) = #[]:=Array.eq_empty_of_size_eq_zero z0;rw[this]
 rw[this];rfl;rw[hd];exact he.put (.of_all2_tup (.cons (.bool _) .nil)) (some nx);have hr:(execOp a.eval o).run P w = .ok (.value (.tuple #[.bool true,x.key,x.val])) (ChangeMaps.setBlock w1 L.b (.mapIter (some Lm.b) since (seen.toArray.push x.born) ck)):=by simp only[execOp,ho,hpe];simp[hrun,Result.andThen]
 rw[hr];have hev1:Evo ρ w O ρ w1 O/\w1.heap=w.heap:=by rcases hw1 with rfl|rfl;exact⟨Evo.refl _ _ _,rfl⟩;exact⟨⟨rfl,rfl,rfl,aX _,λ_ _ _=>rfl,λ_ _ q=>q,λ_ _ _ q=>q⟩,rfl⟩
 obtain⟨ev1,hhp⟩:=hev1;have H1:=H.same ev1 (λb _=>by rw[hhp]);have q3':w1.heap[L.b]?=some (.mapIter (some Lm.b) since seen.toArray last):=by rw[hhp];exact q3
 have htn:j7 w1 (ChangeMaps.setBlock w1 L.b (.mapIter (some Lm.b) since (seen++[x.born]).toArray ck)) L.b (.mapIter (some Lm.b) since (seen++[x.born]).toArray ck):=nR q3';have hps:seen.toArray.push x.born=(seen++[x.born]).toArray:=by simp
 obtain⟨ev2,H2⟩:=H1.turnI hgk hL q2 htn;rw[hps];have ev:=ev1.trans ev2;refine h1 x.born ?_ _ _ ⟨ρ,O,ev0.trans ev,H2,hg.evo ev,?_,by rw[uH];exact hmk⟩;rw[<-I8 hbo];exact List.mem_map.2 ⟨x,hxm,rfl⟩;rw[hd];exact(he.evo ev).put (.of_all2_tup (.cons (.bool _) (.cons (.top _) (.cons (.top _) .nil)))) (some nx)
theorem zF{ro:Option Nat}(hm:P.follows .mixedOrders=true)(hc:rT P num gl bE call)
  (hlk:∀(ps:List Nat)(ca cb:C)(r:Loop),r.params.toList=ps->fitC P num bE ca r.assign=true->fitC P num bE cb r.body=true->tY ca=true->tY cb=true->num.lk ps ca cb r) {kb n:Nat}:∀{c:C}{code:Code}{Q:Exit->Act->World->Prop}{st st':St}{x:Ex}{a:Act}{w:World},
  d6 gl call kb n c st=some (x,st')->fitC P num bE c code=true->(ro=none\/tY c=true)->lW num gl bE Fb B0 ρ0 w0 O0 st a w ->
  (∀a' w',lW num gl bE Fb B0 ρ0 w0 O0 st' a' w'->Q (US x) a' w')->code.wpIn (FW ro) 0 P Q a w:=by
 intro c
 induction c with
 |skip=>intro code Q st st' x a w h hf hn hG hK;cases code<;>simp[fitC]at hf;simp[d6]at h;obtain⟨rfl,rfl⟩:=h;exact wpIn_skip (hK _ _ hG)
 |reg rs d=>
  intro code Q st st' x a w h hf hn hG hK;cases code<;>simp[fitC]at hf;rename_i id ops d';obtain⟨rfl,hf⟩:=hf;obtain⟨f1,f2⟩:=fitRs_get hf;cases d with
  |false=>
   simp only[d6]at h;cases hr:tQ gl call kb rs st with
   |none=>simp[hr]at h
   |some s=>
    simp[hr]at h;obtain⟨rfl,rfl⟩:=h;refine wpIn_region ?_;have hl:ops.size=rs.length:=by simpa using f1.symm
    rw[List.range_eq_range',hl];refine FM hc hr ?_ hG hK;intro j r hrj;have hj:j<ops.size:=by have:=(cJ.1 hrj).1;omega
    exact⟨ops[j],by simp[hj],(f2 j ops[j] r (by simp[hj]) hrj).1⟩
  |true=>
   simp only[d6]at h;split at h
   case h_2=>cases h
   rename_i s es hr;split at h
   case isFalse=>cases h
   rename_i hap;simp at h;obtain⟨rfl,rfl⟩:=h;refine wpIn_region_any hm ?_;refine UZ hc (by simpa using f1) ?_ hr hap hK ?_;intro i o r ho hri;obtain⟨q1,q2⟩:=f2 i o r (by simpa using ho) hri;exact⟨q1,by simpa using q2 rfl⟩;obtain⟨ρ,O,h1,h2,h3,h4,h5⟩:=hG;have ev:Evo ρ w O ρ {w with drawn:=w.drawn+1} O:=⟨rfl,rfl,rfl,aX _,λ_ _ _=>rfl,λ_ _ q=>q,λ_ _ _ q=>q⟩
   exact⟨ρ,O,h1.trans ev,h2.same ev (λ_ _=>rfl),h3.evo ev,h4.evo ev,h5⟩
 |seq c1 c2 ih1 ih2=>
  intro code Q st st' x a w h hf hn hG hK;cases code<;>simp[fitC]at hf;have hn1:ro=none\/tY c1=true:=hn.imp id (λq=>by simp only[tY,aF]at q;exact q.1);have hn2:ro=none\/tY c2=true:=hn.imp id (λq=>by simp only[tY,aF]at q;exact q.2);simp only[d6]at h;refine wpIn_seq ?_;split at h;rename_i st1 h1;exact ih1 h1 hf.1 hn1 hG (λa' w' hG'=>ih2 h hf.2 hn2 hG' hK);rename_i hne;refine ih1 h hf.1 hn1 hG ?_;intro a' w' hG';have:=hK a' w' hG';cases x with
  |nor=>exact absurd h (hne _)
  |ext id=>exact this
  |ret=>exact this
 |cond c c1 c2 ih1 ih2=>
  intro code Q st st' x a w h hf hn hG hK;cases code<;>simp[fitC]at hf;rename_i o x1 x2;obtain⟨⟨hx,h1⟩,h2⟩:=hf;have hn1:ro=none\/tY c1=true:=hn.imp id (λq=>by simp only[tY,aF]at q;exact q.1);have hn2:ro=none\/tY c2=true:=hn.imp id (λq=>by simp only[tY,aF]at q;exact q.2);simp only[d6]at h
  have hv:∃(ρ : Rho)(O:Nat->Prop),Rv num ρ w (λb=>Fb b\/O b) (c.ev gl st.env) (a.eval o):=by obtain⟨ρ,O,q1,q2,q3,q4,_⟩:=hG;exact⟨ρ,O,GM q4 q3 hx⟩
  obtain⟨ρ,O,hv⟩:=hv;split at h;rename_i hb;rw[hb]at hv;exact wpIn_cond_true hv.of_bool (ih1 h h1 hn1 hG hK);rename_i hb;rw[hb]at hv;exact wpIn_cond_false hv.of_bool (ih2 h h2 hn2 hG hK);cases h
 |block id c ih=>
  intro code Q st st' x a w h hf hn hG hK;cases code<;>simp[fitC]at hf;obtain⟨rfl,hf⟩:=hf;simp only[d6]at h;refine wpIn_block ?_;split at h;rename_i i st1 h1;refine ih h1 hf hn hG ?_;intro a' w' hG';split at h;rename_i hi;cases h;simp only[US,Exit.inBlock,hi,aN];exact hK _ _ hG';rename_i hi;cases h;simp only[US,Exit.inBlock];rw[if_neg hi];exact hK _ _ hG';rename_i hne;refine ih h hf hn hG ?_;intro a' w' hG';have:=hK a' w' hG';cases x with
  |nor=>exact this
  |ext id=>exact absurd h (hne _ _)
  |ret=>exact this
 |loop c clr ih=>
  intro code Q st st' x a w h hf hn hG hK;cases code<;>simp[fitC]at hf;rename_i code;simp only[d6]at h;have key:∀m,(∃s,mZ (d6 gl call kb n c) clr m s=some (x,st')/\lW num gl bE Fb B0 ρ0 w0 O0 s a w)->(Code.loop code).wpIn (FW ro) 0 P Q a w:=by
   intro m hs;refine OI (I:=λm a w=>∃s,mZ (d6 gl call kb n c) clr m s=some (x,st')/\lW num gl bE Fb B0 ρ0 w0 O0 s a w) ?_ hs;intro m a w ⟨s,hs,hGs⟩;cases m with
   |zero=>simp[mZ]at hs
   |succ m=>
    simp only[mZ]at hs;split at hs;rename_i s1 h1;refine ih h1 hf hn (hGs.clear clr) ?_;intro a' w' hG';exact⟨m,Nat.lt_succ_self m,s1,hs,hG'⟩;rename_i hne;refine ih hs hf hn (hGs.clear clr) ?_;intro a' w' hG';have:=hK a' w' hG';cases x with
    |nor=>exact absurd hs (hne _)
    |ext id=>exact this
    |ret=>exact this
  exact key n ⟨st,h,hG⟩
 |exit id=>intro code Q st st' x a w h hf hn hG hK;cases code<;>simp[fitC]at hf;subst hf;simp[d6]at h;obtain⟨rfl,rfl⟩:=h;exact wpIn_exit (hK _ _ hG)
 |ret=>intro code Q st st' x a w h hf hn hG hK;cases code<;>simp[fitC]at hf;simp[d6]at h;obtain⟨rfl,rfl⟩:=h;exact wpIn_ret (hK _ _ hG)
 |bad=>intro code Q st st' x a w h;simp[d6]at h
 |mr it nx more out c clr ih=>
  intro code Q st st' x a w h hf hn hG hK;cases code<;>simp only[fitC,bR]at hf;rename_i y;split at hf
  case h_2=>cases hf
  rename_i id ops m o z;simp only[aF,beq_iff_eq]at hf;obtain⟨⟨⟨f1,rfl⟩,rfl⟩,f4⟩:=hf;unfold fitNx at f1;split at f1
  case h_2=>cases f1
  rename_i o1 o2 hops;simp only[aF,beq_iff_eq,Option.isNone_iff_eq_none]at f1;obtain⟨⟨⟨p1,p2⟩,p3⟩,p4⟩:=f1;have p1':o1.op = .next (.tmp it) false:=by split at p1;rename_i t hop;simp at p1;rw[hop,p1];cases p1
  have i1:ops[0]?=some o1:=by rw[<-Array.getElem?_toList,hops];rfl
  have i2:ops[1]?=some o2:=by rw[<-Array.getElem?_toList,hops];rfl
  have hsz:ops.size=2:=by rw[<-Array.length_toList,hops];rfl
  simp only[d6]at h;have key:∀m,(∃s,mrN (d6 gl call kb n c) it nx m o clr n s=some (x,st')/\lW num gl bE Fb B0 ρ0 w0 O0 s a w)->True:=λ_ _=>trivial;clear key;have key:∀q,(∃s,mrN (d6 gl call kb n c) it nx m o clr q s=some (x,st')/\lW num gl bE Fb B0 ρ0 w0 O0 s a w)->(Code.loop (.seq (.region id ops false) (.seq (.cond (.tmp m) .skip (.exit o)) z))).wpIn (FW ro) 0 P Q a w:=by
   intro q hs;refine OI (I:=λq a w=>∃s,mrN (d6 gl call kb n c) it nx m o clr q s=some (x,st')/\lW num gl bE Fb B0 ρ0 w0 O0 s a w) ?_ hs;intro q a w ⟨s,hs,hGs⟩;cases q with
   |zero=>simp[mrN]at hs
   |succ q=>
    simp only[mrN]at hs;split at hs
    case isFalse=>cases hs
    rename_i hlen;split at hs
    case h_2=>cases hs
    rename_i k e hit;split at hs
    case h_2=>cases hs
    rename_i l ob hx;have hn1:nx<(clear clr s.env).length:=by rw[nA];exact hlen.1
    have hn2:m<(clear clr s.env).length:=by rw[nA];exact hlen.2
    refine wpIn_seq (wpIn_region ?_);rw[hsz];show wpOpsIn (FW ro) 0 P ops _ [0,1] a w;rw[wpOpsIn_cons];have step:∀(b:Bool)(r:List AV)(hp:Hp)(a':Act)(w':World),lW num gl bE Fb B0 ρ0 w0 O0 ⟨fP (clear clr s.env) (some nx) (.tup (.bool b::r)),hp⟩ a' w' ->
      (∀a' w',lW num gl bE Fb B0 ρ0 w0 O0 ⟨((clear clr s.env).set nx (.tup (.bool b::r))).set m (.bool b),hp⟩ a' w'->(Code.seq (.cond (.tmp m) .skip (.exit o)) z).wpIn (FW ro) 0 P (Exit.then (λa' w'=>∃p,p<q+1/\∃s,mrN (d6 gl call kb n c) it nx m o clr p s=some (x,st')/\lW num gl bE Fb B0 ρ0 w0 O0 s a' w') Q) a' w') ->
      wpOpsIn (FW ro) 0 P ops (Exit.then (λa' w'=>(Code.seq (.cond (.tmp m) .skip (.exit o)) z).wpIn (FW ro) 0 P (Exit.then (λa' w'=>∃p,p<q+1/\∃s,mrN (d6 gl call kb n c) it nx m o clr p s=some (x,st')/\lW num gl bE Fb B0 ρ0 w0 O0 s a' w') Q) a' w') (Exit.then (λa' w'=>∃p,p<q+1/\∃s,mrN (d6 gl call kb n c) it nx m o clr p s=some (x,st')/\lW num gl bE Fb B0 ρ0 w0 O0 s a' w') Q)) [1] a' w':=by
     intro b r hp a' w' hG1 hK1;rw[wpOpsIn_cons];refine yD (kb:=kb) hc i2 p4 hG1 (st':=⟨((clear clr s.env).set nx (.tup (.bool b::r))).set m (.bool b),hp⟩) (eff:=.pat [] []) ?_ ?_;have hgt:jT ((clear clr s.env).set nx (.tup (.bool b::r))) nx = .tup (.bool b::r):=by unfold jT;rw[List.getElem?_set_self hn1];rfl
     simp only[lM,wanted,fP,opR,TW,Y0,List.map_cons,List.map_nil,X.ev,hgt];rfl;intro a2 w2 hG2;exact hK1 a2 w2 hG2
    refine TY i1 p1' p2 p3 (hGs.clear clr) hit hx ?_ ?_;intro hl a' w' hG1;subst hl;simp only[List.isEmpty_nil,aN]at hs;cases hki:killI s.hp k e with
    |none=>simp[hki]at hs
    |some h2=>
     simp only[hki,Option.map_some,cF,cQ]at hs;obtain⟨rfl,rfl⟩:=hs;refine step false [] _ a' w' hG1 (λa2 w2 hG2=>?_);have hv:a2.eval (.tmp m) = .bool false:=by obtain⟨ρ,O,_,_,_,he,_⟩:=hG2;have:=he.tmp m;unfold jT at this;rw[List.getElem?_set_self (by simpa using hn2)]at this;exact this.of_bool
     refine wpIn_seq (wpIn_cond_false hv (wpIn_exit ?_));exact hK _ _ (hG2.killI hki)
    intro b hb a' w' hG1;have hne:l.isEmpty=false:=by
     cases l with
     |nil=>cases hb
     |cons=>rfl
    rw[hne]at hs;simp only[bR,aL]at hs;have hs':=HO (λx y=>aAu) hs b hb;refine step true [.top,.top] _ a' w' hG1 (λa2 w2 hG2=>?_);have hv:a2.eval (.tmp m) = .bool true:=by obtain⟨ρ,O,_,_,_,he,_⟩:=hG2;have:=he.tmp m;unfold jT at this;rw[List.getElem?_set_self (by simpa using hn2)]at this;exact this.of_bool
    refine wpIn_seq (wpIn_cond_true hv (wpIn_skip ?_));simp only[Exit.then];split at hs';rename_i s1 h1;refine ih h1 f4 hn hG2 ?_;intro a3 w3 hG3;exact⟨q,Nat.lt_succ_self q,s1,hs',hG3⟩;rename_i x1 s1 hne1 h1;cases hki:killI s1.hp k e with
    |none=>simp[hki]at hs'
    |some h2=>
     simp only[hki,Option.map_some,cF,cQ]at hs';obtain⟨rfl,rfl⟩:=hs';refine ih h1 f4 hn hG2 ?_;intro a3 w3 hG3;have:=hK a3 w3 (hG3.killI hki);cases x1 with
     |nor=>exact(by first|exact(hne1 _ rfl).elim|exact hne1.elim|exact absurd rfl hne1|simp at hne1)
     |ext id=>exact this
     |ret=>exact this
    cases hs'
  exact key n ⟨st,h,hG⟩
 |rf fx s ps ca cb=>
  intro code Q st st' x a w h hf hn hG hK;cases code<;>simp[fitC]at hf;rename_i g ps' cas cbd;obtain⟨⟨⟨⟨⟨hx,rfl⟩,f1⟩,f2⟩,n1⟩,n2⟩:=hf;obtain rfl:ro=none:=hn.resolve_right (by simp[tY]);simp only[d6]at h;split at h
  case h_2=>cases h
  rename_i f cs hfx;split at h
  case h_2=>cases h
  rename_i rr h' hcall;obtain⟨ρ,O,ev0,H,hg,he,hmk⟩:=hG;have hv:=GM he hg hx;rw[hfx]at hv;obtain⟨cvs,hfe,hcl,hcg⟩:=hv.of_fn;obtain⟨⟨fn0,z1,z2,z3⟩,hca⟩:=hc.fn _ _ _ _ _ _ hcall;refine wpIn_rangeFunc λfn _=>?_;obtain⟨r0,hr0⟩:∃r0:Loop,({state:=.ready,pending:=none,fn,tmps:=a.tmps,params:=ps',assign:=cas,body:=cbd,defers:=w.heap.size}:Loop)=r0:=⟨_,rfl⟩
  have p0:mF w (w.alloc (.deferred (some []))) (.deferred (some [])):=⟨rfl,rfl,rfl,rfl⟩
  have ev1:Evo ρ w O ρ (w.alloc (.deferred (some []))) O:=
   ⟨rfl,rfl,rfl,by rw[p0.size];omega,λb hb _=>p0.old hb,λ_ _ q=>q,λ_ _ _ q=>q⟩
  have H1:=H.same ev1 (λb hb=>p0.old (H.own b hb).2);have hs1:(w.alloc (.deferred (some []))).heap.size=w.heap.size+1:=p0.size;have p1:mF (w.alloc (.deferred (some []))) ((w.alloc (.deferred (some []))).alloc (.loop r0)) (.loop r0):=⟨rfl,rfl,rfl,rfl⟩
  have he1:=he.evo ev1;obtain⟨ev2,H2⟩:=H1.newLp (k:=kb+s) (bb:=kb) (env:=st.env) (ps:=ps'.toList) (ca:=ca) (cb:=cb) p1
   (hlk _ _ _ _ (by rw[<-hr0]) (by rw[<-hr0];exact f1) (by rw[<-hr0];exact f2) n1 n2) (.inl ⟨rfl,by rw[<-hr0],by rw[<-hr0]⟩) (by rw[<-hr0];exact he1.size)
   (λi x y hx hy=>he1.get i x y hx (by rw[<-hr0]at hy;exact hy))
  have hg2:=(hg.evo ev1).evo ev2;have ev12:=ev1.trans ev2
  have hav:bA (Rv num _ ((w.alloc (.deferred (some []))).alloc (.loop r0)) (λb=>Fb b\/(O b\/b=(w.alloc (.deferred (some []))).heap.size))) (.yl (kb+s) (st.hp.next (kb+s))::cs) (.func (.yield (w.heap.size+1)) #[] #[]::cvs.toList):=
   .cons (by rw[<-hs1];exact .yl _ _ _ (Rho.set_same _ _ _ _)) (bA.of_get (by simpa using hcl) (λi x y hx hy=>(hcg i x y hx (by simpa using hy)).evo ev12))
  have hcc:=hca Fb B0 _ _ _ _ H2 hg2 hav;refine⟨w.heap.size+1,[{target:=.collected w.heap.size,args := #[]}],(w.alloc (.deferred (some []))).alloc (.loop r0),{target:=.fn (.func (num f)) cvs,args := #[.func (.yield (w.heap.size+1)) #[] #[]]},
   (w.alloc (.deferred (some []))).alloc (.loop r0),num f,(Value.func (.yield (w.heap.size+1)) #[] #[]::cvs.toList).toArray,(w.alloc (.deferred (some []))).alloc (.loop r0),?_,?_,?_,?_,λh=>by simp[Fence.wide]at h,?_⟩
  rw[<-hr0];exact run_enterLoop_outer _ _ _ _ _
  ·simp only[resolve,hfe];simp[Deferred.ofValue]
   try rfl
  intro f' _;trivial;have:=kW (P:=P) (g:=num f) (args := #[.func (.yield (w.heap.size+1)) #[] #[]]++cvs) ((w.alloc (.deferred (some []))).alloc (.loop r0)) ⟨fn0,z1,z2,z3⟩;have hm:(Value.func (.yield (w.heap.size+1)) #[] #[]::cvs.toList).toArray = #[.func (.yield (w.heap.size+1)) #[] #[]]++cvs:=by apply Array.ext';simp
  rw[hm];simp[invoke,this];refine(zK hcc).mono ?_;rintro en w3 ⟨cv,ρ3,O3,rfl,ev3,H3,_⟩;unfold QT at h;split at h
  case h_2=>cases h
  rename_i e' q bb env1 ps1 ca1 cb1 hget;split at h
  case isFalse=>cases h
  rename_i hee;subst hee;obtain⟨L,r3,q1,q2,q3,q4,q5,q6,q7,q8⟩:=H3.lpo _ _ _ _ _ _ _ _ hget;have hL:L=⟨(w.alloc (.deferred (some []))).heap.size,0,0,false,0⟩:=by have:=ev3.rho _ _ _ (Rho.set_same ρ (kb+s) (st.hp.next (kb+s)) ⟨(w.alloc (.deferred (some []))).heap.size,0,0,false,0⟩);rw[q1]at this;exact Option.some.inj this
  have hLb:L.b=w.heap.size+1:=by rw[hL];exact hs1
  have hlt:L.b<w3.heap.size:=(rU.1 q2).1;have ht:j7 w3 (w3.putObj L.b (.loop {r3 with state:=.exhausted})) L.b (.loop {r3 with state:=.exhausted}):=
   ⟨rfl,rfl,rfl,by simp,by simp[World.putObj,hlt],λk hk=>World.putObj_heap_other hk⟩
  obtain⟨ev4,H4⟩:=H3.killLp hget q1 ht;have hev:=ev12.trans (ev3.trans ev4);have hD:w3.heap[w.heap.size]?=some (.deferred (some [])):=by
   have hO:¬(O w.heap.size\/w.heap.size=(w.alloc (.deferred (some []))).heap.size):=by rintro(q|q);have:=(H.own _ q).2;omega;omega
   rw[ev3.keep _ (by rw[p1.size];omega) hO,p1.old (by omega)];exact p0.new
  have hO3:¬O3 w.heap.size:=by intro q;rcases ev3.own _ (by rw[p1.size];omega) q with q|q;have:=(H.own _ q).2;omega;omega
  have hG4:∀hp,(hp=h'.put (kb+s) (st.hp.next (kb+s)) .dead)->lW num gl bE Fb B0 ρ0 w0 O0 ⟨st.env,hp⟩ {a with defers:=[{target:=.collected w.heap.size,args := #[]}]++a.defers} (w3.putObj L.b (.loop {r3 with state:=.exhausted})):=by
   rintro hp rfl;have he4:=he.evo hev;refine⟨ρ3,O3,ev0.trans hev,H4,hg.evo hev,⟨he4.size,he4.get,⟨w.heap.size,rfl,?_,?_,?_⟩,he4.defers⟩,?_⟩;rintro(q|q);have:=H.fbl _ q;have:=H.le;omega;exact hO3 q;rw[World.putObj_heap_other (by omega)];exact hD
   have:∀{l:List Deferred},x9 w (λb=>Fb b\/O b) l->∀d'∈l,d'.target ≠ .collected w.heap.size:=by
    intro l
    induction l with
    |nil=>intro _ d' hd';cases hd'
    |cons d l ih=>rintro⟨⟨D,y1,y2,y3,y4⟩,y5⟩ d' hd';rcases dA.1 hd' with rfl|hd';intro e;rw[y1]at e;have:=(rU.1 y3).1;cases e;omega;exact ih y5 d' hd'
   exact this he.defers;intro d hd D hDt;rcases dA.1 hd with rfl|hd;cases hDt;exact ev0.size;exact hmk d hd D hDt
  have hstate:r3.state ≠ .busy->(Instr.endLoop (w.heap.size+1)).run P w3 = .ok r3.pending (w3.putObj L.b (.loop {r3 with state:=.exhausted})):=by intro hb;rw[<-hLb];exact run_endLoop q2 hb
  generalize w3.putObj L.b (.loop {r3 with state:=.exhausted})=w4 at hG4 hstate;refine⟨r3.pending,_,hstate ?_,?_⟩;rcases q4 with ⟨_,y,_⟩|⟨y0,y,_⟩|⟨_,y,_⟩|⟨i,_,y,_⟩
  rw[y];decide;subst y0;cases h;rw[y];decide;rw[y];decide;rcases q4 with ⟨y0,_,y⟩|⟨y0,_,y⟩|⟨y0,_,y⟩|⟨i,y0,_,y⟩
  subst y0;cases h;rw[y];exact hK _ _ (hG4 _ rfl);subst y0;cases h;subst y0;cases h;rw[y];exact wpIn_ret (hK _ _ (hG4 _ rfl));obtain rfl:q=i+4:=by omega
  simp only at h;cases h;rw[y];exact wpIn_exit (hK _ _ (hG4 _ rfl))
end
section
variable{P:Program}{num:Nm}{bE:Nat->Nat}{Fb:Nat->Prop}{B0:Nat}{ρ : Rho}{w:World}{O:Nat->Prop}
def PM(tmps:Array Value):ResultVar->Sem Value
 |.tmp t=>pure (tmps.getD t undef)
 |.cell c t=>do loadVar t (<-asAddr (tmps.getD c undef))
theorem PI{st:St}{a:Act}{r:Sum Nat (Nat×Nat×Bool)}{rv:ResultVar}{v:AV}(H:HpR num Fb B0 ρ w O st.hp)(he:vF num ρ w (λb=>Fb b\/O b) st.env a)
  (hf:fitRes P [r] [rv]=true) (h:CV st r=some v) :
  ∃cv,(PM a.tmps rv).run P w = .ok cv w/\Rv num ρ w (λb=>Fb b\/O b) v cv:=by
 cases r with
 |inl t=>
  cases rv with
  |cell=>simp[fitRes]at hf
  |tmp u=>simp[fitRes]at hf;subst hf;simp[CV]at h;subst h;exact⟨_,by simp only[PM];exact Sem.run_pure ..,he.tmp t⟩
 |inr p=>
  obtain⟨t,sz,ag⟩:=p;cases rv with
  |tmp=>simp[fitRes]at hf
  |cell u ty=>
   simp[fitRes]at hf;obtain⟨rfl,hf⟩:=hf;simp only[CV]at h;split at h
   case h_2=>cases h
   rename_i k e off hp;split at h
   case h_2=>cases h
   rename_i e' cs _ _ _ _ hg;split at h
   case isFalse=>cases h
   rename_i hee;subst hee;have ht:=he.tmp t;rw[hp]at ht;obtain⟨L,q1,q2⟩:=ht.of_pt;obtain⟨cv,r1,r2⟩:=IU H hg q2 hf h (λq=>fitT_one hf q);exact⟨cv,by simp only[PM,q1];simp[asAddr,r1],r2⟩
theorem zQ{st:St}{a:Act}(H:HpR num Fb B0 ρ w O st.hp)(he:vF num ρ w (λb=>Fb b\/O b) st.env a):∀{rs:List (Sum Nat (Nat×Nat×Bool))}{rvs:List ResultVar}{l:List AV},
  fitRes P rs rvs=true->tP st rs=some l ->
  ∃cvs:List Value,(rvs.mapM (PM a.tmps)).run P w = .ok cvs w/\bA (Rv num ρ w (λb=>Fb b\/O b)) l cvs
 |[],[],l,_,h=>by simp[tP]at h;subst h;exact⟨[],by simp,.nil⟩
 |[],_::_,l,hf,_=>by simp[fitRes]at hf
 |r::_,[],l,hf,_=>by cases r<;>simp[fitRes]at hf
 |r::rs,rv::rvs,l,hf,h=>by
  unfold tP at h;split at h
  case h_2=>cases h
  rename_i v l' h1 h2;cases h;have hff:fitRes P [r] [rv]=true/\fitRes P rs rvs=true:=by cases r<;>cases rv<;>simp[fitRes]at hf ⊢ <;> first|exact hf|exact⟨⟨hf.1.1,hf.1.2⟩,hf.2⟩
  obtain⟨cv,q1,q2⟩:=PI H he hff.1 h1;obtain⟨cvs,q3,q4⟩:=zQ H he hff.2 h2;exact⟨cv::cvs,by simp only[List.mapM_cons];simp[q1,q3],.cons q2 q4⟩
theorem LB{st:St}{a:Act}{cf:CF}{fn:Func}{v:AV}(H:HpR num Fb B0 ρ w O st.hp)(he:vF num ρ w (λb=>Fb b\/O b) st.env a)
  (hf:fitRes P cf.res fn.results.toList=true) (h:result st cf.res=some v):∃cv,(results fn a.tmps).run P w = .ok cv w/\Rv num ρ w (λb=>Fb b\/O b) v cv:=by
 unfold result at h;cases hr:tP st cf.res with
 |none=>simp[hr]at h
 |some l=>
  obtain⟨cvs,q1,q2⟩:=zQ H he hf hr;refine⟨if h:cvs.toArray.size=1 then cvs.toArray[0] else .tuple cvs.toArray,?_,?_⟩;have e:results fn a.tmps=(do
    let vs <-fn.results.mapM (PM a.tmps)
    pure (if h:vs.size=1 then vs[0] else .tuple vs)):=by
   unfold results;congr 1
  rw[e,Array.mapM_eq_mapM_toList];simp[q1];rw[hr]at h;cases q2 with
  |nil=>simp at h;subst h;simp;exact .tup [] #[] rfl (by intro i x y hx;simp at hx)
  |cons h1 h2=>
   cases h2 with
   |nil=>simp at h;subst h;simpa using h1
   |cons h2 h3=>simp at h;subst h;simp;have hh:=bA.cons h1 (.cons h2 h3);exact .tup _ _ (by simpa using hh.length) (λi x y hx hy=>hh.get i x y hx (by simpa using hy))
def aKP(P:Program)(num bE:Nat->Nat)(ps:List Nat)(ca cb:C)(r:Loop):Prop:=
 r.params.toList=ps/\fitC P num bE ca r.assign=true/\fitC P num bE cb r.body=true/\tY ca=true/\tY cb=true
structure aET(P:Program)(num:Nm)(bE:Nat->Nat)(pg:Pg):Prop where
 fs:∀f cf,pg.fs f=some cf->∃fn,P.funcs[num f]?=some fn/\fitF P num bE cf fn=true
 ex:∀f g,pg.ex f=some g->j8 P num pg.gl bE ⟨λf' avs kb h=>if f'=f then g avs kb h else none,λ_ _ _ _=>none⟩
 lk:∀ps ca cb r,num.lk ps ca cb r↔aKP P num bE ps ca cb r
theorem aAw{F:Nat->Prop}{cf:CF}{fn:Func}{avs:List AV}{vs:List Value}(hv:bA (Rv num ρ w F) avs vs)(hn:fn.ntmps=cf.nt) :
  vF num ρ w F (enter cf avs) {tmps:=vs.toArray++Array.replicate (fn.ntmps-vs.toArray.size) undef,defers:=[]}:=by
 have hl:=hv.length;refine⟨by simp[enter,hl,hn],?_,trivial⟩;intro t x y hx hy;simp only[enter]at hx;rcases eS t avs.length with q|q;rw[List.getElem?_append_left q]at hx;rw[Array.getElem?_append_left (by simpa using (by omega:t<vs.length))]at hy;exact hv.get t x y hx (by simpa using hy);rw[yA q]at hx;rw[Array.getElem?_append_right (by simpa using (by omega:vs.length<=t))]at hy;simp[List.getElem?_replicate]at hx;simp[Array.getElem?_replicate]at hy;obtain⟨_,rfl⟩:=hx;obtain⟨_,rfl⟩:=hy;exact .tup [] #[] rfl (by intro i x y hx;simp at hx)
theorem zZ{fn:Func}{tmps:Array Value}{R:Ending->World->Prop}{Fb':Nat->Prop}{h:Hp}:∀{l:List Deferred}{w:World},HpR num Fb B0 ρ w O h->x9 w (λb=>Fb' b\/O b) l ->
  (∀w',HpR num Fb B0 ρ w' O h->(∀b off,w'.cell? ⟨b,off,none⟩=w.cell? ⟨b,off,none⟩)->w.heap.size<=w'.heap.size->w'.os=w.os->w'.tape=w.tape->w'.output=w.output ->
   (∀b,(∀d∈l,d.target ≠ .collected b)->w'.heap[b]?=w.heap[b]?)->∃v,(results fn tmps).run P w' = .ok v w'/\R (.returned v) w') ->
  LeavesInM Fence.wide 0 P fn tmps R l .returning w
 |[],w,H,_,hK=>hK w H (λ_ _=>rfl) (aX _) rfl rfl rfl (λ_ _=>rfl)
 |d::l,w,H,⟨⟨D,h1,h2,h3,h4⟩,h5⟩,hK=>by
  refine⟨by simp,.inl ⟨D,w.putObj D (.deferred none),by rw[h1],run_takeDeferred h3,?_⟩⟩;refine zZ (Fb':=Fb') (H.shut h3) ?_ ?_
  have:∀{l:List Deferred},(∀d'∈l,d'.target ≠ .collected D)->x9 w (λb=>Fb' b\/O b) l->x9 (w.putObj D (.deferred none)) (λb=>Fb' b\/O b) l:=by
   intro l
   induction l with
   |nil=>intro _ _;trivial
   |cons e l ih=>rintro hne ⟨⟨D',y1,y2,y3,y4⟩,y5⟩;refine⟨⟨D',y1,y2,?_,y4⟩,ih (λd' hd'=>hne d' (dY _ hd')) y5⟩;rw[World.putObj_heap_other];exact y3;intro e;subst e;exact hne _ List.mem_cons_self (by rw[y1])
  exact this h4 h5;intro w' H' g1 g2 g3 g4 g5 g6;refine hK w' H' (λb off=>(g1 b off).trans (KL h3 b off)) (Nat.le_trans (by simp) g2) g3 g4 g5 ?_;intro b hb;rw[g6 b (λd' hd'=>hb d' (dY _ hd'))];exact World.putObj_heap_other (λe=>hb d List.mem_cons_self (by rw[h1,e]))
theorem aEu(hm:P.follows .mixedOrders=true){pg:Pg}(hfit:aET P num bE pg)(n:Nat)(hn:rT P num pg.gl bE (cM pg n)):j8 P num pg.gl bE (cM pg (n+1)):=by
  intro f avs kb h r h' hcall;simp only[cM]at hcall;split at hcall;split at hcall;rename_i g hg;exact hfit.ex f g hg f avs kb h r h' (by simp only[aN];exact hcall);cases hcall;rename_i cf hcf;obtain⟨fn,hfn,hff⟩:=hfit.fs f cf hcf;unfold fitF at hff;split at hff
  case h_2=>cases hff
  rename_i code hbody;simp only[aF,beq_iff_eq,bne_iff_ne,ne_eq]at hff;obtain⟨⟨⟨f1,f2⟩,f3⟩,f4⟩:=hff;refine⟨⟨fn,hfn,by simp[hbody],f3⟩,?_⟩;intro Fb B0 ρ O w vs H hg hv;refine(callsIn_wide (n:=0)).1 (callsIn_of_wp_marks hfn hbody trivial ?_);show code.wpIn (FW none) 0 P _ _ _;have hG:lW num pg.gl bE Fb B0 ρ w O ⟨enter cf avs,h⟩ {tmps:=vs.toArray++Array.replicate (fn.ntmps-vs.toArray.size) undef,defers:=[]} w:=
   ⟨ρ,O,Evo.refl _ _ _,H,hg,aAw hv f2,λd hd=>by cases hd⟩
  have hpost:∀st,(result st cf.res).map (λv=>(v,st.hp))=some (r,h')->∀a' w',lW num pg.gl bE Fb B0 ρ w O st a' w' ->
    LeavesInM Fence.wide 0 P fn a'.tmps (λe w'=>∃cv ρ' O',e = .returned cv/\Evo ρ w O ρ' w' O'/\HpR num Fb B0 ρ' w' O' h'/\Rv num ρ' w' (λb=>Fb b\/O' b) r cv) a'.defers .returning w':=by
   intro st hst a' w' ⟨ρ',O',g1,g2,g3,g4,g5⟩;cases hr:result st cf.res with
   |none=>simp[hr]at hst
   |some v=>
    simp[hr]at hst;obtain⟨rfl,rfl⟩:=hst;refine zZ (Fb':=Fb) g2 g4.defers ?_;intro w2 H2 c1 c2 c3 c4 c5 c6
    have he2:vF num ρ' w2 (λb=>Fb b\/O' b) st.env {tmps:=a'.tmps,defers:=[]}:=
     ⟨g4.size,λt x y hx hy=>(g4.get t x y hx hy).world c1 c2,trivial⟩
    obtain⟨cv,q1,q2⟩:=LB H2 he2 f4 hr;refine⟨cv,q1,cv,ρ',O',rfl,⟨c3.trans g1.os,c4.trans g1.tape,c5.trans g1.output,Nat.le_trans g1.size c2,λb hb hO=>?_,λb hb hO=>g1.own b hb hO,g1.rho⟩,H2,q2⟩;rw[c6 b (λd hd e=>by have:=g5 d hd b e;omega)];exact g1.keep b hb hO
  split at hcall;cases hcall;rename_i x st hne hex;refine zF hm hn (λps ca cb r h1 h2 h3 h4 h5=>(hfit.lk ps ca cb r).2 ⟨h1,h2,h3,h4,h5⟩) hex f1 (.inl rfl) hG ?_;intro a' w' hG';cases x with
  |nor=>exact hpost st hcall a' w' hG'
  |ext id=>exact(hne id rfl).elim
  |ret=>exact hpost st hcall a' w' hG'
  cases hcall
end
end
section
open Go.RowKit
section
variable{P:Program}{num:Nm}{bE:Nat->Nat}
theorem EU{w:World}{l:Nat}{r r':Loop}(h:w.heap[l]?=some (.loop r)):j7 w (w.putObj l (.loop r')) l (.loop r'):=
 have hlt:l<w.heap.size:=(rU.1 h).1
 ⟨rfl,rfl,rfl,by simp,by simp[World.putObj,hlt],λk hk=>World.putObj_heap_other hk⟩
theorem aEt(hm:P.follows .mixedOrders=true){pg:Pg}(hfit:aET P num bE pg)(n:Nat)(hn:rT P num pg.gl bE (cM pg n)):ZF P num pg.gl bE (cM pg (n+1)):=by
 intro k e avs h r h' hy Fb B0 ρ O w vs L H hg hv hL;have hlk:=λps ca cb r (h1:r.params.toList=ps) h2 h3 h4 h5=>(hfit.lk ps ca cb r).2 ⟨h1,h2,h3,h4,h5⟩
 have lkT:∀{ps:List Nat}{ca cb:C}{r r':Loop},r'.params=r.params->r'.assign=r.assign->r'.body=r.body->num.lk ps ca cb r->num.lk ps ca cb r':=λe1 e2 e3 q=>by obtain⟨a1,a2,a3,a4⟩:=(hfit.lk _ _ _ _).1 q;exact(hfit.lk _ _ _ _).2 ⟨by rw[e1];exact a1,by rw[e2];exact a2,by rw[e3];exact a3,a4⟩
 simp only[cM]at hy;unfold yO at hy;split at hy
 case h_2=>cases hy
 rename_i e0 b env ps ca cb hget;split at hy
 case isFalse=>cases hy
 rename_i hcond;obtain⟨rfl,hps⟩:=hcond;split at hy
 case h_2=>cases hy
 rename_i st1 hex1;split at hy
 case h_2=>cases hy
 rename_i e1 b1 env1 ps1 ca1 cb1 hget1;split at hy
 case isFalse=>cases hy
 rename_i he1;subst he1;split at hy
 case h_2=>cases hy
 rename_i x st2 hex2;split at hy
 case h_2=>cases hy
 rename_i e2 b2 env2 ps2 ca2 cb2 hget2;split at hy
 case isFalse=>cases hy
 rename_i he2;subst he2;cases hy;obtain⟨L0,r0,q1,q2,q3,q4,q5,q6,q7,q8⟩:=H.lpo _ _ _ _ _ _ _ _ hget;rw[q1]at hL;cases hL;obtain⟨k1,k2,k3,k4,k5⟩:=(hfit.lk _ _ _ _).1 q3;have hsz:vs.toArray.size=r0.params.size:=by
  have h1:=hv.length;have h2:r0.params.size=ps.length:=by rw[<-k1];simp
  simp;omega
 refine⟨r0.fn,_,r0.assign,r0.body,run_yield q2 hsz,?_⟩;obtain⟨s1,s2⟩:=IJ (ps:=ps) (env:=env) (tmps:=r0.tmps) hv q5 q6 hps
 have hz:(r0.params.zip vs.toArray).foldl (λtmps (t,a)=>tmps.setIfInBounds t a) r0.tmps=(ps.zip vs).foldl (λt (p:Nat×Value)=>t.setIfInBounds p.1 p.2) r0.tmps:=by rw[<-k1,<-Array.foldl_toList,Array.toList_zip]
 refine roundIn_of_wpIn (F:=Fence.wide) trivial ?_;rw[hz];show r0.assign.wpIn (FW (some L.b)) 0 P _ _ w;refine zF (ρ0 := ρ) (w0:=w) (O0:=O) (Fb:=Fb) (B0:=B0) hm hn hlk hex1 k2 (.inr k4) ⟨ρ,O,Evo.refl _ _ _,H,hg,⟨s1,s2,trivial⟩,λd hd=>by cases hd⟩ ?_;intro a1 w1 ⟨ρ1,O1,ev1,H1,hg1,he1,_⟩;obtain⟨L1,r1,p1,p2,p3,p4,_⟩:=H1.lpo _ _ _ _ _ _ _ _ hget1;obtain rfl:L1=L:=by have:=ev1.rho _ _ _ q1;rw[p1]at this;exact Option.some.inj this
 have hready:r1.state = .ready/\r1.pending=none:=by
  rcases p4 with ⟨_,y⟩|⟨y,_⟩|⟨y,_⟩|⟨i,y,_⟩
  exact y;cases y;cases y;omega
 obtain⟨ev2,H2⟩:=H1.turnLp (st':=1) (bb':=b1) (r':={r1 with state:=.busy}) hget1 p1 p2 (EU p2) rfl (lkT rfl rfl rfl) (.inr (.inl ⟨rfl,rfl,hready.2⟩));refine⟨_,run_beginRound p2 hready.1,?_⟩;show r0.body.wpIn (FW (some L1.b)) 0 P _ _ _
 refine zF (ρ0 := ρ) (w0:=w) (O0:=O) (Fb:=Fb) (B0:=B0) hm hn hlk hex2 k3 (.inr k5) ⟨ρ1,O1,ev1.trans ev2,H2,hg1.evo ev2,he1.evo ev2,λd hd D hD=>by
  have hmk:=(‹∀d∈a1.defers,_› : ∀d∈a1.defers,∀D,d.target = .collected D->w.heap.size<=D)
  exact hmk d hd D hD⟩ ?_
 intro a2 w2 ⟨ρ2,O2,ev3,H3,hg3,he3,_⟩;obtain⟨L2,r2,z1,z2,z3,z4,_⟩:=H3.lpo _ _ _ _ _ _ _ _ hget2;obtain rfl:L2=L1:=by have:=ev3.rho _ _ _ q1;rw[z1]at this;exact Option.some.inj this
 have hturn:∀(jump:Option Code)(st':Nat),aCf st' {r2 with state:=if jump.isNone then .ready else .done,pending:=jump} ->
   Evo ρ2 w2 O2 ρ2 (w2.putObj L2.b (.loop {r2 with state:=if jump.isNone then .ready else .done,pending:=jump})) O2 /\
   HpR num Fb B0 ρ2 (w2.putObj L2.b (.loop {r2 with state:=if jump.isNone then .ready else .done,pending:=jump})) O2 (st2.hp.put k e2 (.lp st' b2 env2 ps2 ca2 cb2)):=
  λjump st' hst=>H3.turnLp hget2 z1 z2 (EU z2) rfl (lkT rfl rfl rfl) hst
 cases x with
 |nor=>obtain⟨ev4,H4⟩:=hturn none 0 (.inl ⟨rfl,rfl,rfl⟩);exact⟨_,_,run_endRound none z2,_,ρ2,O2,rfl,ev3.trans ev4,H4,.bool _⟩
 |ret=>obtain⟨ev4,H4⟩:=hturn (some .ret) 3 (.inr (.inr (.inl ⟨rfl,rfl,rfl⟩)));exact⟨_,_,run_endRound (some .ret) z2,_,ρ2,O2,rfl,ev3.trans ev4,H4,.bool _⟩
 |ext i=>obtain⟨ev4,H4⟩:=hturn (some (.exit i)) (i+4) (.inr (.inr (.inr ⟨i,by omega,rfl,rfl⟩)));exact⟨_,_,run_endRound (some (.exit i)) z2,_,ρ2,O2,rfl,ev3.trans ev4,H4,.bool _⟩
theorem wV(hm:P.follows .mixedOrders=true){pg:Pg}(hfit:aET P num bE pg):∀n,rT P num pg.gl bE (cM pg n)
 |0=>⟨by intro f avs kb h r h' hcall;simp[cM]at hcall,by intro k e avs h r h' hy;simp[cM]at hy⟩
 |n+1=>⟨aEu hm hfit n (wV hm hfit n),aEt hm hfit n (wV hm hfit n)⟩
end
end
section
inductive BT(α : Type) where
 |e
 |n (k:Nat) (v : α) (l r:BT α)
def BT.find{α : Type}(x:Nat):BT α -> Option α
 |.e=>none
 |.n k v l r=>bif x.blt k then l.find x else bif k.blt x then r.find x else some v
def BT.All{α : Type}(p:Nat -> α -> Prop):BT α -> Prop
 |.e=>True
 |.n k v l r=>p k v/\l.All p/\r.All p
theorem BT.All.find{α : Type}{p:Nat -> α -> Prop}{x:Nat}{v : α}:∀{t:BT α},t.All p->t.find x=some v->p x v
 |.e,_,h=>by simp[BT.find]at h
 |.n k u l r,ha,h=>by
  obtain⟨h1,h2,h3⟩:=ha;simp only[BT.find,cond_eq_ite]at h;split at h;exact BT.All.find h2 h;rename_i q1;split at h;exact BT.All.find h3 h;rename_i q2;cases h;have:k=x:=by simp only[Nat.blt_eq]at q1 q2;omega
  subst this;exact h1
def aKQ(P:Program)(num bE:Nat->Nat)(f:Nat)(cf:CF):Prop:=∃fn,P.funcs[num f]?=some fn/\fitF P num bE cf fn=true
theorem fitP_of{P:Program}{num:Nm}{bE:Nat->Nat}{t:BT CF}{gl:Nat->Option AV}{ex:Nat->Option (List AV->Nat->Hp->Option (AV×Hp))}(h:t.All (aKQ P num bE))
  (hx:∀f g,ex f=some g->j8 P num gl bE ⟨λf' avs kb h=>if f'=f then g avs kb h else none,λ_ _ _ _=>none⟩) (hl:∀ps ca cb r,num.lk ps ca cb r↔aKP P num bE ps ca cb r):aET P num bE ⟨λf=>t.find f,gl,ex⟩:=
 ⟨λ_ _ hq=>BT.All.find h hq,hx,hl⟩
def aPI(P:Program)(num bE:Nat->Nat):Nm:=⟨num,aKP P num bE⟩
def aLe(t:BT Nat)(f:Nat):Nat:=(t.find f).getD 1000000
abbrev Z:AV:=.top
abbrev Y:Bool:=true
abbrev N:Bool:=false
abbrev i0:AV:=.int .i64 0
abbrev i1:AV:=.int .i64 1
abbrev bN:AV:=.bool false
abbrev bY:AV:=.bool true
abbrev sN:AV:=.sl true [] true
end
end Go.Tev
