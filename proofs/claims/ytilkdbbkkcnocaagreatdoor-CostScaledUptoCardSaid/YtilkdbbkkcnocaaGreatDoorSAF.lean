import Derived.Test.YtilkdbbkkcnocaaGreatDoorSAE
import Derived.OrdersIn
set_option linter.all false
namespace Go.Tev
section
open Go.RowKit
theorem BV(h:Hp)(a b:List Ent):aM h (a++b)=aM (aM h a) b:=by
 induction a generalizing h with
 |nil=>rfl
 |cons x r ih=>simp[aM,ih]
theorem mA{q:Nat}:∀(pa:List Ent)(h:Hp),q ∉ pa.map (·.k)->(aM h pa).get q=h.get q
 |[],_,_=>rfl
 |x::r,h,hq=>by simp only[List.map_cons,List.mem_cons,not_or]at hq;simp only[aM];rw[mA r _ hq.2,aB,if_neg (λe=>hq.1 e.symm)]
theorem AJ:∀(x y:List (AV×AV)),JQ x y=true->x=y
 |[],[],_=>rfl
 |[],_::_,h=>by simp[JQ]at h
 |_::_,[],h=>by simp[JQ]at h
 |(a,b)::r,(c,d)::s,h=>by simp only[JQ,aD]at h;rw[iR a c h.1.1,iR b d h.1.2,AJ r s h.2]
theorem AI{x y:Ob}(h:VE x y=true):x=y:=by cases x<;>cases y<;>simp[VE]at h ⊢;exact⟨fP _ _ h.1.1.1.1,h.1.1.1.2,h.1.1.2,h.1.2,h.2⟩;exact⟨AJ _ _ h.1.1,h.1.2,h.2⟩;exact⟨h.1.1.1.1,h.1.1.1.2,h.1.1.2,h.1.2,h.2⟩;exact⟨h.1.1.1.1.1,h.1.1.1.1.2,fP _ _ h.1.1.1.2,h.1.1.2,h.1.2,h.2⟩
theorem wV{x y:Option (Nat×Ob)}(h:qD x y=true):x=y:=by
 cases x with
 |none=>cases y with
  |none=>rfl
  |some y=>simp[qD]at h
 |some x=>cases y with
  |none=>simp[qD]at h
  |some y=>obtain⟨a,b⟩:=x;obtain⟨c,d⟩:=y;simp only[qD,aD,beq_iff_eq]at h;rw[h.1,AI h.2]
section
variable{P:Program}{num:Nm}{Fb:Nat->Prop}{B0:Nat}{ρ : Rho}{w:World}
theorem jB:∀(S:List Nat)(h:Hp)(O:Nat->Prop),HpR num Fb B0 ρ w O h ->
  ∃O':Nat->Prop,(∀b,O' b->O b)/\HpR num Fb B0 ρ w O' (aM h (aI h S))/\(∀b,SB ρ h S b->¬O' b)/\(∀k,(aM h (aI h S)).next k=h.next k)
 |[],h,O,H=>⟨O,λ_ q=>q,H,λb ⟨k,_,_,_,hk,_⟩=>by simp at hk,λ_=>rfl⟩
 |k::r,h,O,H=>by
  unfold aI;split;rename_i e cs esz ag ti hg;obtain⟨L,c,T,q1,_⟩:=H.blk _ _ _ _ _ _ _ hg;obtain⟨_,H1⟩:=H.freeze hg q1;obtain⟨O',o1,o2,o3,o4⟩:=jB r _ _ H1;refine⟨O',λb hb=>(o1 b hb).1,o2,?_,?_⟩;intro b ⟨k',e',o',L',hk',hg',hb',hL',hbb⟩ hO;by_cases hkk:k=k';subst hkk;rw[hg]at hg';cases hg';rw[q1]at hL';cases hL';exact(o1 b hO).2 hbb.symm;have:k'∈r:=by rcases List.mem_cons.1 hk' with q|q;exact absurd q.symm hkk;exact q
  exact o3 b ⟨k',e',o',L',this,by rw[aB,if_neg hkk];exact hg',hb',hL',hbb⟩ hO;intro k';simp only[aM];rw[o4 k'];simp only[Hp.next,aB];by_cases hkk:k=k';subst hkk;simp[hg];simp[hkk];rename_i hnot;obtain⟨O',o1,o2,o3,o4⟩:=jB r h O H;refine⟨O',o1,o2,?_,o4⟩;intro b ⟨k',e',o',L',hk',hg',hb',hL',hbb⟩ hO;rcases List.mem_cons.1 hk' with q|q;subst q;cases o' with
  |dead=>simp[Ob.isBlk]at hb'
  |mpo=>simp[Ob.isBlk]at hb'
  |itr=>simp[Ob.isBlk]at hb'
  |lp=>simp[Ob.isBlk]at hb'
  |blk cs esz ag ti fz=>
   cases fz with
   |false=>exact hnot _ _ _ _ _ hg'
   |true=>obtain⟨L,c,T,q1,_,_,_,_,_,_,_,_,q10⟩:=H.blk _ _ _ _ _ _ _ hg';rw[q1]at hL';cases hL';exact q10 rfl (hbb ▸ o1 b hO)
  exact o3 b ⟨k',e',o',L',q,hg',hb',hL',hbb⟩ hO
variable{O:Nat->Prop}{h:Hp}{ρv:Operand->Value}{o:Oper}
theorem SB.not_Fb(H:HpR num Fb B0 ρ w O h){S:List Nat}{b:Nat}(hb:SB ρ h S b):¬Fb b:=by
 intro hf;obtain⟨k,e,o,L,_,hg,hbk,hL,hbb⟩:=hb;have h1:=H.fbl _ hf;cases o with
 |dead=>simp[Ob.isBlk]at hbk
 |mpo=>simp[Ob.isBlk]at hbk
 |itr=>simp[Ob.isBlk]at hbk
 |lp=>simp[Ob.isBlk]at hbk
 |blk=>obtain⟨L',_,_,q1,_,_,_,_,_,_,q8,_⟩:=H.blk _ _ _ _ _ _ _ hg;rw[q1]at hL;cases hL;omega
theorem aFP(H:HpR num Fb B0 ρ w O h){k0:Nat}{l:List Operand}{vs:List AV}{v:AV}{eff:Eff}(hv:aJ (Rv num ρ w (λb=>Fb b\/O b)) vs (l.map ρv))
  (hf:fitK P num o .frz=some l) (h1:op1 h k0 .frz vs=some (v,eff)):eC P num Fb B0 ρ w O h ρv o v eff:=by
 have e1:op1 h k0 .frz vs=match mapS (snap depth h) vs with
   |some ([t],keys)=>some (t,.pat keys (aI h keys))
   |_=>none:=by
  rcases vs with _|⟨x,_|⟨y,_|⟨z,_|⟨u,r⟩⟩⟩⟩<;>rfl
 rw[e1]at h1;split at h1
 case h_2=>cases h1
 rename_i t keys hm;simp only[aU,bA]at h1;obtain⟨rfl,rfl⟩:=h1;obtain⟨O',o1,H',o3,_⟩:=jB keys h O H;obtain⟨m1,m2⟩:=gR hm
 have hts:aJ (Rv num ρ w (λb=>Fb b\/O' b)) [t] (l.map ρv):=by
  refine aJ.of_get (by have:=hv.length;omega) ?_;intro i x y hx hy;have hi:i<vs.length:=by have:=(cF.1 hx).1;omega
  obtain⟨x',s',p1,p2,p3⟩:=m2 i vs[i] (by simp[hi]);rw[hx]at p1;cases p1;refine dU H (F':=λb=>Fb b\/O' b) (λb hb=>hb.imp id (o1 b)) depth _ _ _ _ p2 (hv.get i _ y (by simp[hi]) hy) (λb hb hF=>?_);have hb':SB ρ h keys b:=by obtain⟨k,e,o,L,q1,q2⟩:=hb;exact⟨k,e,o,L,p3 k q1,q2⟩
  rcases hF with hF|hF;exact hb'.not_Fb H hF;exact o3 b hb' hF
 have hf':fitK P num o .mov=some l:=by simp only[fitK]at hf ⊢;exact hf
 have h2:op1 (aM h (aI h keys)) k0 .mov [t]=some (t,.pat [] []):=rfl;obtain⟨n,cv,w',ρ',O'',d1,d2,d3,d4,d5⟩:=MC H' hts hf' h2;refine⟨n,cv,w',ρ',O'',d1,d2,⟨d3.os,d3.tape,d3.output,d3.size,λb hb hO=>d3.keep b hb (λq=>hO (o1 b q)),λb hb q=>o1 b (d3.own b hb q),d3.rho⟩,d4,d5⟩
theorem aFz(H:HpR num Fb B0 ρ w O h){k0:Nat}{l:List Operand}{vs:List AV}{v:AV}{eff:Eff}(hv:aJ (Rv num ρ w (λb=>Fb b\/O b)) vs (l.map ρv))
  (hf:fitK P num o .mvk=some l) (h1:op1 h k0 .mvk vs=some (v,eff)):eC P num Fb B0 ρ w O h ρv o v eff:=by
 have hf':fitK P num o .mov=some l:=by simp only[fitK]at hf ⊢;exact hf
 have hx:∃x,l=[x]/\(o.op = .move x\/o.op = .assign x):=by simp only[fitK]at hf;split at hf;cases hf;exact⟨_,rfl,.inl ‹_›⟩;cases hf;exact⟨_,rfl,.inr ‹_›⟩;cases hf
 obtain⟨x,rfl,ho⟩:=hx;obtain⟨a,rfl,ha⟩:=hv.one;have e1:op1 h k0 .mvk [a]=zN h k0 a:=rfl;rw[e1]at h1;unfold zN at h1;split at h1;rename_i k e off len cap;split at h1
 case h_2=>cases h1
 rename_i e' cs esz ag ti hg;split at h1
 case isFalse=>cases h1
 rename_i hc;obtain⟨rfl,hoff⟩:=hc;cases h1;obtain⟨cap',L,hx',hL,hlc,hcc',htt,hrm⟩:=ha.of_rf;obtain⟨L0,c,T,q1,q2,q3,q4,q5,q6,q7,q8,q9,q10⟩:=H.blk _ _ _ _ _ _ _ hg;rw[hL]at q1;cases q1;rw[q3]at hrm;have ht:fH w w L.b (.cells c T (0,0)):=⟨rfl,rfl,rfl,rfl,q4,λ_ _=>rfl⟩
 obtain⟨ev,H'⟩:=H.move (k0:=k0) (off:=off) (cs':=cs.drop off) (ag':=ag) hg hL ht q5 (by omega) (by simp;omega) (λi y hy=>by
  rw[List.getElem?_drop]at hy;obtain⟨z,hz,hr⟩:=q7 _ _ hy;rw[<-Nat.add_assoc]at hz;exact⟨z,hz,hr⟩) (if k=k0 then h else h.put k e' .dead) rfl (h.next k0) rfl
 refine⟨_,.slice (some ⟨L.b,L.base+off,none⟩) len cap',w,_,O,?_,.inl rfl,ev,?_,?_⟩;rcases ho with ho|ho<;>simp[execOp,ho,hx'];show HpR num Fb B0 _ w O (aM h _);by_cases hk:k=k0;rw[if_pos hk]at H' ⊢;exact H';rw[if_neg hk]at H' ⊢;exact H';refine .rf _ _ _ _ _ cap' ⟨L.b,L.base+off,L.room-off,false,esz,λh=>nomatch h⟩ (Rho.set_same _ _ _ _) hlc hcc' (λq=>by cases q) ?_;simp only;omega;exact MC H (.cons ha .nil) hf' (k0:=k0) (by obtain⟨rfl,rfl⟩:=bH h1;rfl)
theorem aFG(H:HpR num Fb B0 ρ w O h){k0:Nat}{l:List Operand}{vs:List AV}{v:AV}{eff:Eff}(hv:aJ (Rv num ρ w (λb=>Fb b\/O b)) vs (l.map ρv))
  (esz:Nat) (ag:Bool) (hf:fitK P num o (.mkZ esz ag)=some l) (h1:op1 h k0 (.mkZ esz ag) vs=some (v,eff)):eC P num Fb B0 ρ w O h ρv o v eff:=by
 have e1:op1 h k0 (.mkZ esz ag) vs=match mapS (snap depth h) vs with
   |some (ts,keys)=>if ts.all λv=>v.fits esz ag then some (.sl false ts true,.pat keys (aI h keys)) else none
   |none=>none:=by
  rcases vs with _|⟨x,_|⟨y,_|⟨z,_|⟨u,r⟩⟩⟩⟩<;>rfl
 rw[e1]at h1;split at h1
 case h_2=>cases h1
 rename_i ts keys hm;split at h1
 case isFalse=>cases h1
 rename_i hall;simp only[aU,bA]at h1;obtain⟨rfl,rfl⟩:=h1;obtain⟨O',o1,H',o3,_⟩:=jB keys h O H;obtain⟨m1,m2⟩:=gR hm
 have hts:aJ (Rv num ρ w (λb=>Fb b\/O' b)) ts (l.map ρv):=by
  refine aJ.of_get (by have:=hv.length;omega) ?_;intro i x y hx hy;have hi:i<vs.length:=by have:=(cF.1 hx).1;omega
  obtain⟨x',s',p1,p2,p3⟩:=m2 i vs[i] (by simp[hi]);rw[hx]at p1;cases p1;refine dU H (F':=λb=>Fb b\/O' b) (λb hb=>hb.imp id (o1 b)) depth _ _ _ _ p2 (hv.get i _ y (by simp[hi]) hy) (λb hb hF=>?_);have hb':SB ρ h keys b:=by obtain⟨k,e,o,L,q1,q2⟩:=hb;exact⟨k,e,o,L,p3 k q1,q2⟩
  rcases hF with hF|hF;exact hb'.not_Fb H hF;exact o3 b hb' hF
 have hf':fitK P num o (.mkSl esz ag false)=some l:=by simp only[fitK]at hf ⊢;exact hf
 have h2:op1 (aM h (aI h keys)) k0 (.mkSl esz ag false) ts=some (.sl false ts true,.pat [] []):=by
  have e2:op1 (aM h (aI h keys)) k0 (.mkSl esz ag false) ts=if (ts.all λv=>v.fits esz ag)=true then val (.sl false ts true) else none:=by rcases ts with _|⟨x,_|⟨y,_|⟨z,_|⟨u,r⟩⟩⟩⟩<;>rfl
  rw[e2,if_pos hall];rfl
 obtain⟨n,cv,w',ρ',O'',d1,d2,d3,d4,d5⟩:=OT H' hts esz ag false hf' h2;refine⟨n,cv,w',ρ',O'',d1,d2,⟨d3.os,d3.tape,d3.output,d3.size,λb hb hO=>d3.keep b hb (λq=>hO (o1 b q)),λb hb q=>o1 b (d3.own b hb q),d3.rho⟩,d4,d5⟩
theorem RB(H:HpR num Fb B0 ρ w O h){k0:Nat}{k:K}{l:List Operand}{vs:List AV}{v:AV}{eff:Eff}(hcst:∀c,ρv (.const c)=c)(hfnv:∀g:Nat,ρv (.func g) = .func (.func g) #[] #[])
  (hv:aJ (Rv num ρ w (λb=>Fb b\/O b)) vs (l.map ρv)) (hf:fitK P num o k=some l) (h1:op1 h k0 k vs=some (v,eff)):eC P num Fb B0 ρ w O h ρv o v eff:=by
 cases k with
 |mov=>exact MC H hv hf h1
 |pick=>exact YS H hv hf h1
 |box=>exact aGb H hv hf h1
 |alloc z a=>exact TZ H hv z a hf h1
 |build z p=>exact TY H hv z p hf h1
 |mkSl a b c=>exact OT H hv a b c hf h1
 |load a b=>exact YV H hv a b hf h1
 |store a b=>exact TX H hv a b hf h1
 |nilc=>exact YT H hv hf h1
 |bin op=>exact aGc H hv op hf h1
 |beq n=>exact aGd H hv n hf h1
 |eqn q n=>exact aFU H hv hcst q n hf h1
 |eqs n q=>exact aFT H hv n q hf h1
 |un op=>exact aIQ H hv op hf h1
 |cvi k=>exact aFX H hv k hf h1
 |cvs=>exact aFW H hv hf h1
 |s2b=>exact aFx H hv hf h1
 |b2s=>exact aGe H hv hf h1
 |fld a b c=>exact aFQ H hv a b c hf h1
 |fad a b c=>exact aFR H hv a b c hf h1
 |iad a b c=>exact aFO H hv a b c hf h1
 |ixs=>exact aFM H hv hf h1
 |ixa a b c=>exact aFN H hv a b c hf h1
 |slc a b c d=>exact aFv H hv a b c d hf h1
 |sls a b=>exact aFu H hv a b hf h1
 |sla a b c d=>exact aFw H hv a b c d hf h1
 |mks a b c d=>exact aFC H hv a b c d hf h1
 |len q=>exact aFL H hv q hf h1
 |lenc n=>exact YW H hv n hf h1
 |cap=>exact aGa H hv hf h1
 |app a b c=>exact aGg H hv a b c hf h1
 |apz a b c d=>exact aGf H hv a b c d hf h1
 |cpy a b=>exact aFY H hv a b hf h1
 |clr a b=>exact aFZ H hv a b hf h1
 |mn=>exact aIS H hv hf h1
 |mx=>exact aIR H hv hf h1
 |ext i=>exact aFS H hv i hf h1
 |mki=>exact aFE H hv hf h1
 |mkf f=>exact aFF H hv f hf h1
 |call=>simp[op1]at h1
 |callv=>simp[op1]at h1
 |mkm=>exact aFD H hv hf h1
 |mlk a b c=>exact aFB H hv a b c hf h1
 |mup a=>exact aFA H hv a hf h1
 |mdel a=>exact YU H hv a hf h1
 |men a b=>exact aFK H hv a b hf h1
 |mes=>exact aFJ H hv hf h1
 |bx a=>exact aIT H hv hfnv a hf h1
 |rng=>exact aFy H hv hf h1
 |ent=>exact aFV H hv hf h1
 |mkZ a b=>exact aFG H hv a b hf h1
 |frz=>exact aFP H hv hf h1
 |mvk=>exact aFz H hv hf h1
 |calle f=>simp[op1]at h1
 |callr f=>simp[op1]at h1
 |callvr=>simp[op1]at h1
 |mkT t=>exact aFH H hv t hf h1
 |mkM t=>exact aFI H hv t hf h1
 |tas a b c d=>exact aFt H hv a b c d hf h1
 |inv=>simp[op1]at h1
 |bad=>simp[op1]at h1
def BM(num:Nm)(Fb:Nat->Prop)(B0:Nat)(w:World):AV->Value->Prop
 |.os es esz ag,c=>∃(b base room cap:Nat)(cl:Array Value)(T:TypeId),c = .slice (some ⟨b,base,none⟩) es.length cap/\es.length<=cap/\w.heap[b]?=some (.cells cl T (0,0))/\base+room<=cl.size /\
   cap*esz<=room/\(∀(i:Nat)(e:AV),es[i]?=some e->e.cells.length=esz)/\B0<=b /\
   (∀(i:Nat)(e:AV)(j:Nat)(x:AV),es[i]?=some e->e.cells[j]?=some x->∃y,cl[base+(i*esz+j)]?=some y/\∀ ρ0:Rho,Rv num ρ0 w (λx=>Fb x\/x=b) x y)
 |r,c=>∀ ρ0:Rho,Rv num ρ0 w Fb r c
theorem BM.of_tree{r:AV}{c:Value}(h:∀ ρ0:Rho,Rv num ρ0 w Fb r c):BM num Fb B0 w r c:=by cases r<;>first|exact h|(have:=h (λ_ _=>none);cases this)
theorem M1{O:Nat->Prop}{h:Hp}(H:HpR num Fb B0 ρ w O h){v r:AV}{c:Value}(hr:Rv num ρ w (λb=>Fb b\/O b) v c)(hc:conv h v=some r):BM num Fb B0 w r c:=by
 have htree:∀(u:AV),(snap depth h u).map (·.1)=some r->Rv num ρ w (λb=>Fb b\/O b) u c->BM num Fb B0 w r c:=by
  intro u hu hru;cases hs:snap depth h u with
  |none=>simp[hs]at hu
  |some p=>
   simp[hs]at hu;subst hu;refine BM.of_tree (λρ0=>dU H (λb hb => .inl hb) depth u p.1 p.2 c hs hru ?_);intro b ⟨k,e,o,L,_,hg,hb,hL,hbb⟩ hF;have h1:=H.fbl _ hF;cases o with
   |dead=>simp[Ob.isBlk]at hb
   |mpo=>simp[Ob.isBlk]at hb
   |itr=>simp[Ob.isBlk]at hb
   |lp=>simp[Ob.isBlk]at hb
   |blk=>obtain⟨L',_,_,q1,_,_,_,_,_,_,q8,_⟩:=H.blk _ _ _ _ _ _ _ hg;rw[q1]at hL;cases hL;omega
 unfold conv at hc
 split at hc;rename_i k e off len cap;split at hc;rename_i e' cs esz ag ti hg;split at hc
 case isFalse=>cases hc
 rename_i he;subst he;split at hc
 case h_2=>cases hc
 rename_i es hch;split at hc
 case h_2=>cases hc
 rename_i l s hm;split at hc
 case isTrue=>cases hc
 rename_i hnk;cases hc;obtain⟨m1,m2⟩:=gR hm;obtain⟨c1,c2,c3⟩:=rE hch;obtain⟨cap',L,rfl,hL,hlc,hcc,htt,hrm⟩:=hr.of_rf;obtain⟨L0,cb,T,q1,q2,q3,q4,q5,q6,q7,q8,q9,q10⟩:=H.blk _ _ _ _ _ _ _ hg;rw[hL]at q1;cases q1;have hll:l.length=len:=by omega
 rw[q3]at hrm;refine⟨L.b,L.base+off,L.room-off,cap',cb,T,by rw[hll],by omega,q4,by omega,by omega,?_,q8,?_⟩;intro i u hu;have hi:i<es.length:=by have:=(cF.1 hu).1;omega
 obtain⟨x',s',p1,p2,p3⟩:=m2 i es[i] (by simp[hi]);rw[hu]at p1;cases p1;rw[(pM p2).2];exact(c3 i _ (by simp[hi])).1;intro i u j x hu hx;have hi:i<es.length:=by have:=(cF.1 hu).1;omega
 obtain⟨x',s',p1,p2,p3⟩:=m2 i es[i] (by simp[hi]);rw[hu]at p1;cases p1;obtain⟨d1,d2,d3⟩:=c3 i es[i] (by simp[hi]);have hj:j<esz:=by have:=(cF.1 hx).1;rw[(pM p2).2]at this;omega
 have hget:es[i].cells[j]?=cs[off+(i*esz+j)]?:=by rw[d3 j hj,List.getElem?_drop]
 have hjl:j<es[i].cells.length:=by omega
 have hx0:es[i].cells[j]?=some es[i].cells[j]:=by simp[hjl]
 obtain⟨y,hy,_⟩:=q7 _ _ (hget ▸ hx0);refine⟨y,by rw[Nat.add_assoc];exact hy,λρ0=>?_⟩
 have key:=vM (w:=w) (ρ := ρ) (ρ0 := ρ0) (F:=λb=>Fb b\/O b) (F':=λx=>Fb x\/x=L.b) (m:=λj=>cb.getD (L.base+(off+(i*esz+j))) undef) p2
  (λc hc'=>dU (F':=λx=>Fb x\/x=L.b) H (λb (hb:Fb b\/b=L.b)=>hb.imp id (λq=>by rw[q];exact q9 rfl)) depth _ _ _ c p2 hc' (by
   intro b ⟨k',e1,o1,L1,hk1,hg1,hb1,hL1,hbb⟩ hF;have hkk:k' ≠ k:=by intro q;subst q;exact hnk (by simpa using p3 k' hk1)
   rcases hF with hF|hF;have h1:=H.fbl _ hF;cases o1 with
   |dead=>simp[Ob.isBlk]at hb1
   |mpo=>simp[Ob.isBlk]at hb1
   |itr=>simp[Ob.isBlk]at hb1
   |lp=>simp[Ob.isBlk]at hb1
   |blk=>obtain⟨L',_,_,r1,_,_,_,_,_,_,r8,_⟩:=H.blk _ _ _ _ _ _ _ hg1;rw[r1]at hL1;cases hL1;omega
   exact iP H hg rfl hL hkk hg1 (by intro q;subst q;simp[Ob.isBlk]at hb1) hL1 (hbb.trans hF)))
  (by
   intro j x hx;have hj':j<esz:=by have:=(cF.1 hx).1;omega
   rw[d3 j hj',List.getElem?_drop]at hx;obtain⟨y',hy',hr'⟩:=q7 _ x hx;simp[hy'];exact hr') j x hx
 simpa[hy] using key;exact htree _ hc hr;exact htree _ hc hr
theorem BS{O:Nat->Prop}{h:Hp}{w':World}{Fb':Nat->Prop}{S:List Nat}(H:HpR num Fb B0 ρ w O h)(hw:Evo (λ_ _=>none) w (λ_=>False) (λ_ _=>none) w' (λ_=>False))
  (hFb':∀b,(Fb b\/O b)->¬SB ρ h S b->Fb' b) {r v:AV} {c:Value} {k0:Nat} {th:Bool} {pa:List Ent} (hr:BM num Fb' w.heap.size w' r c) (hv:hU h k0 th r=some (v,pa)) :
  ∃ ρ' O',Evo ρ w O ρ' w' O'/\HpR num Fb B0 ρ' w' O' (aM h ((if r.flat then [] else aI h S)++pa))/\Rv num ρ' w' (λb=>Fb b\/O' b) v c:=by
 have hkeep:∀b,b<w.heap.size->w'.heap[b]?=w.heap[b]?:=λb hb=>hw.keep b hb (λq=>q);have hfr:∃O1:Nat->Prop,(∀b,O1 b->O b)/\HpR num Fb B0 ρ w O1 (aM h (if r.flat then [] else aI h S))/\(r.flat=false->∀b,SB ρ h S b->¬O1 b)/\(∀k,(aM h (if r.flat then [] else aI h S)).next k=h.next k):=by
  cases r.flat with
  |true=>exact⟨O,λ_ q=>q,H,(λq=>by cases q),λ_=>rfl⟩
  |false=>obtain⟨O',o1,o2,o3,o4⟩:=jB S h O H;exact⟨O',o1,o2,λ_=>o3,o4⟩
 obtain⟨O1,o1,H1,o3,o4⟩:=hfr;have ev1:Evo ρ w O1 ρ w' O1:=⟨hw.os,hw.tape,hw.output,hw.size,λb hb _=>hkeep b hb,λ_ _ q=>q,λ_ _ _ q=>q⟩
 have ev0:∀O2:Nat->Prop,(∀b,b<w.heap.size->O2 b->O1 b)->Evo ρ w O ρ w' O2:=λO2 hO=>⟨hw.os,hw.tape,hw.output,hw.size,λb hb _=>hkeep b hb,λb hb q=>o1 b (hO b hb q),λ_ _ _ q=>q⟩
 have H1':HpR num Fb B0 ρ w' O1 (aM h (if r.flat then [] else aI h S)):=H1.same ev1 (λb hb=>hkeep b (H1.own b hb).2);have hsub:r.flat=false->∀b,(Fb b\/O1 b)->Fb' b:=by
  intro hfl b hb;refine hFb' b (hb.imp id (o1 b)) ?_;intro hSB;rcases hb with hb|hb;obtain⟨k,e,o,L,_,hg,hbk,hL,hbb⟩:=hSB;have h1:=H.fbl _ hb;cases o with
  |dead=>simp[Ob.isBlk]at hbk
  |mpo=>simp[Ob.isBlk]at hbk
  |itr=>simp[Ob.isBlk]at hbk
  |lp=>simp[Ob.isBlk]at hbk
  |blk=>obtain⟨L',_,_,q1,_,_,_,_,_,_,q8,_⟩:=H.blk _ _ _ _ _ _ _ hg;rw[q1]at hL;cases hL;omega
  exact o3 hfl b hSB hb
 by_cases hos:∃es esz ag,r = .os es esz ag;obtain⟨es,esz,ag,rfl⟩:=hos;obtain⟨b,base,room,cap,cl,T,rfl,hcap,hheap,hsz,hrm,hes,hB,hcells⟩:=hr;have hb1:¬(Fb b\/O1 b):=by intro q;rcases q with q|q;have:=H.fbl _ q;have:=H.le;omega;have:=(H1.own _ q).2;omega
 have hblt:b<w'.heap.size:=by rcases Nat.lt_or_ge b w'.heap.size with q|q;exact q;simp[Array.getElem?_eq_none q]at hheap
 have hval:∀(ρ':Rho)(i:Nat)(e:AV)(j:Nat)(x:AV),es[i]?=some e->e.cells[j]?=some x->∃y,cl[base+(i*esz+j)]?=some y/\Rv num ρ' w' (λx=>Fb x\/(O1 x\/x=b)) x y:=by
  intro ρ' i e j x he hx;obtain⟨y,hy,hrv⟩:=hcells i e j x he hx;refine⟨y,hy,?_⟩;cases hfl:(AV.os es esz ag).flat with
  |false=>refine(hrv ρ').F_mono (λq hq=>?_);rcases hq with hq|hq|hq;exact .inl (hsub hfl q (.inl hq));exact .inl (hsub hfl q (.inr hq));exact .inr hq
  |true=>
   refine(hrv ρ').flat_any ?_;have he':=Rv.flat_any.flatL_get (by simpa[AV.flat] using hfl) i e he;cases e<;>simp only[AV.cells]at hx<;>first
    |exact Rv.flat_any.flatL_get (by simpa[AV.flat] using he') j x hx
    |(cases j with
      |zero=>simp at hx;exact hx ▸ he'
      |succ j=>simp at hx)
 unfold hU at hv;simp only at hv;cases th with
 |false=>
  simp at hv;obtain⟨rfl,rfl⟩:=hv;rw[List.append_nil];refine⟨ρ,O1,ev0 O1 (λ_ _ q=>q),H1',?_⟩;refine .sl es false b base cap esz (λn=>cl.getD (base+n) undef) hcap (λq=>by cases q) (λ_=>⟨hb1,hblt⟩) hes ?_ ?_ none (λ_=>rfl);intro n hn;have h2:es.length*esz<=cap*esz:=Nat.mul_le_mul_right _ hcap;have:base+n<cl.size:=by omega
  simp[World.cell?,hheap,this];intro i e j x he hx;obtain⟨y,hy,hrv⟩:=hval ρ i e j x he hx;simp[hy];exact hrv.F_mono (λq hq=>hq.imp id .inl)
 |true=>
  simp only[if_true]at hv;split at hv
  case h_2=>cases hv
  rename_i cs hcs;simp at hv;obtain⟨rfl,rfl⟩:=hv;obtain⟨rfl,hfits⟩:=l6 hcs;rw[BV];have hfl:(eO es).length=es.length*esz:=iQ hes;have hnx:=o4 k0;generalize aM h (if (AV.os es esz ag).flat=true then [] else aI h S)=h1 at *;rw[<-hnx];have hfresh:=kS H1 k0
  have ev:Evo ρ w O1 (ρ.set k0 (h1.next k0) ⟨b,base,room,false,esz,λh=>nomatch h⟩) w' (λx=>O1 x\/x=b):=
   {os:=hw.os,tape:=hw.tape,output:=hw.output,size:=hw.size,keep:=λb hb _=>hkeep b hb,own:=λx hx hO=>hO.elim id (λe=>by omega),rho:=Rho.set_keeps hfresh}
  refine⟨ρ.set k0 (h1.next k0) ⟨b,base,room,false,esz,λh=>nomatch h⟩,λx=>O1 x\/x=b,{ev with own:=λx hx hO=>o1 x (ev.own x hx hO),keep:=λb hb _=>hkeep b hb},?_,?_⟩;simp only[aM];refine H1.put ev ?_ (oN h1 k0) ?_ ?_ ?_ ?_;intro k' e' L hL;unfold Rho.set at hL;split at hL;rename_i hc;exact .inr hc;exact .inl hL;intro x hO;rcases hO with hO|rfl;exact⟨(H1.own x hO).1,Nat.lt_of_lt_of_le (H1.own x hO).2 hw.size⟩;exact⟨by have:=H.le;omega,hblt⟩;intro k' e' o' L hk hg hd hL;exact⟨hkeep _ (H1.loc_lt hg hd hL),.inl⟩;refine⟨_,cl,T,Rho.set_same _ _ _ _,rfl,rfl,hheap,hsz,?_,?_,by have:=H.le;show B0<=b;omega,λ_ => .inr rfl,λq=>by cases q⟩;rw[hfl];have h2:es.length*esz<=cap*esz:=Nat.mul_le_mul_right _ hcap;show es.length*esz<=room;omega;intro n x hx;have hn:n<es.length*esz:=by have:=(cF.1 hx).1;omega
  have hpos:0<esz:=by rcases Nat.eq_zero_or_pos esz with q|q;simp[q]at hn;exact q
  have hdm:n / esz*esz+n % esz=n:=by rw[Nat.mul_comm];exact Nat.div_add_mod n esz
  have hg:=oA hes (n / esz) (n % esz) (Nat.mod_lt _ hpos);rw[hdm,hx]at hg;have hil:n / esz<es.length:=Nat.div_lt_of_lt_mul (by rw[Nat.mul_comm];exact hn);have he:es[n / esz]?=some es[n / esz]:=by simp[hil]
  rw[he]at hg;simp only[Option.bind_some]at hg;obtain⟨y,hy,hrv⟩:=hval (ρ.set k0 (h1.next k0) ⟨b,base,room,false,esz,λh=>nomatch h⟩) (n / esz) _ (n % esz) x he hg.symm;rw[hdm]at hy;exact⟨y,hy,hrv⟩;intro _ k' e' o' L L' hk hg hl hL' hL hb;rw[Rho.set_same]at hL;cases hL;have:=H1.loc_lt hg (by intro e;subst e;cases hl) hL';simp at hb;omega;have:=Rv.rf (num:=num) (w:=w') (F:=λx=>Fb x\/(O1 x\/x=b)) k0 (h1.next k0) 0 es.length es.length cap _ (Rho.set_same ρ k0 (h1.next k0) ⟨b,base,room,false,esz,λh=>nomatch h⟩) (Nat.le_refl _) hcap (λq=>by cases q) (by simp;exact hrm);simpa using this
 have hrv:hU h k0 th r=some (r,[]):=by unfold hU;cases r<;>first|rfl|exact absurd ⟨_,_,_,rfl⟩ hos
 rw[hrv]at hv;simp at hv;obtain⟨rfl,rfl⟩:=hv;rw[List.append_nil];have hres:∀ ρ0:Rho,Rv num ρ0 w' Fb' r c:=by cases r<;>first|exact hr|exact absurd ⟨_,_,_,rfl⟩ hos
 refine⟨ρ,O1,ev0 O1 (λ_ _ q=>q),H1',?_⟩;cases hfl:r.flat with
 |true=>exact(hres ρ).flat_any hfl
 |false=>exact(hres ρ).F_mono (λb hb=>hsub hfl b hb)
end
end
section
open Go.RowKit
def iZ(num:Nm)(gl:Nat->Option AV)(gnum:Nat->Nat)(ρ : Rho)(w:World)(F:Nat->Prop):Prop:=
 ∀g v,gl g=some v->(v.tree=true/\∃c T fr,w.heap[gnum g]?=some (.cells c T fr)/\c.size=v.cells.length)/\Rv num ρ w F (.fp v) (.pointer (some ⟨gnum g,0,none⟩))
def gP(P:Program)(num:Nm)(gl:Nat->Option AV)(gnum:Nat->Nat)(call:aW):Prop:=
 ∀f avs kb h r h',call f avs kb h=some (r,h') ->
  (∃fn,P.funcs[num f]?=some fn/\fn.body.isSome=true/\fn.name ≠ "runtime.NumGoroutine") /\
  ∀(Fb:Nat->Prop)(B0:Nat)(ρ : Rho)(O:Nat->Prop)(w:World)(vs:List Value),HpR num Fb B0 ρ w O h->iZ num gl gnum ρ w (λb=>Fb b\/O b) ->
   aJ (Rv num ρ w (λb=>Fb b\/O b)) avs vs ->
   Calls P (num f) vs.toArray w λe w'=>∃cv ρ' O',e = .returned cv/\Evo ρ w O ρ' w' O'/\HpR num Fb B0 ρ' w' O' h'/\Rv num ρ' w' (λb=>Fb b\/O' b) r cv
section
variable{P:Program}{num:Nm}{gl:Nat->Option AV}{gnum:Nat->Nat}{call:aW}{Fb:Nat->Prop}{B0:Nat}{ρ : Rho}{w:World}{O:Nat->Prop}{h:Hp}
theorem HpR.start(Fb:Nat->Prop)(w:World)(hF:∀b,Fb b->b<w.heap.size):HpR num Fb w.heap.size (λ_ _=>none) w (λ_=>False) [] where
 blk:=by intro k e cs esz ag ti fz hg;simp[Hp.get]at hg
 mpo:=by intro k e es bs ck hg;simp[Hp.get]at hg
 ito:=by intro k e mk me since seen last hg;simp[Hp.get]at hg
 lpo:=by intro k e st b env ps ca cb hg;simp[Hp.get]at hg
 inj:=by intro k k' e e' o o' L L' hg;simp[Hp.get]at hg
 ep:=by intro k e L hL;cases hL
 own:=by intro b hb;exact hb.elim
 fbl:=hF
 le:=Nat.le_refl _
theorem w9(hc:gP P num gl gnum call){f:Nat}{ts:List AV}{r:AV}(h1:bJ call f ts=some r){vs:List Value}(hF:∀b,Fb b->b<w.heap.size)(hg:iZ num gl gnum (λ_ _=>none) w Fb)
  (hv:aJ (Rv num (λ_ _=>none) w Fb) ts vs) :
  (∃fn,P.funcs[num f]?=some fn/\fn.body.isSome=true/\fn.name ≠ "runtime.NumGoroutine") /\
  Calls P (num f) vs.toArray w λe w'=>∃cv,e = .returned cv/\Evo (λ_ _=>none) w (λ_=>False) (λ_ _=>none) w' (λ_=>False)/\BM num Fb w.heap.size w' r cv:=by
 unfold bJ at h1;split at h1
 case h_2=>cases h1
 rename_i r' h' hcall;obtain⟨a1,a2⟩:=hc _ _ _ _ _ _ hcall;refine⟨a1,?_⟩
 refine(a2 Fb w.heap.size (λ_ _=>none) (λ_=>False) w vs (HpR.start Fb w hF) (λg v q=>⟨(hg g v q).1,(hg g v q).2.F_mono (λb hb=>hb.elim id False.elim)⟩)
  (hv.imp (λa b hab=>hab.F_mono (λb hb=>hb.elim id False.elim)))).mono ?_
 rintro e w' ⟨cv,ρ',O',rfl,ev,H',hr⟩;refine⟨cv,rfl,⟨ev.os,ev.tape,ev.output,ev.size,ev.keep,λb hb q=>q,λk e L q=>by cases q⟩,M1 H' hr h1⟩
theorem HpR.ext{h2:Hp}(H:HpR num Fb B0 ρ w O h)(he:∀k,h2.get k=h.get k):HpR num Fb B0 ρ w O h2 where
 blk:=λk e cs esz ag ti fz hg=>H.blk k e cs esz ag ti fz (by rw[<-he];exact hg)
 mpo:=λk e es bs ck hg=>H.mpo k e es bs ck (by rw[<-he];exact hg)
 ito:=λk e mk me since seen last hg=>H.ito k e mk me since seen last (by rw[<-he];exact hg)
 lpo:=λk e st b env ps ca cb hg=>H.lpo k e st b env ps ca cb (by rw[<-he];exact hg)
 inj:=λk k' e e' o o' L L' g1 g2=>H.inj k k' e e' o o' L L' (by rw[<-he];exact g1) (by rw[<-he];exact g2)
 ep:=λk e L hL=>by obtain⟨e',o,q1,q2⟩:=H.ep k e L hL;exact⟨e',o,by rw[he];exact q1,q2⟩
 own:=H.own
 fbl:=H.fbl
 le:=H.le
theorem qY:∀{h:Hp}{k:Nat}{p:Nat×Ob},h.get k=some p->∃x∈h,x.k=k
 |[],_,_,hg=>by simp[Hp.get]at hg
 |x::r,k,p,hg=>by simp only[Hp.get]at hg;split at hg;rename_i e;exact⟨x,by simp,e⟩;obtain⟨y,h1,h2⟩:=qY hg;exact⟨y,bT _ h1,h2⟩
theorem uU(hc:gP P num gl gnum call)(H:HpR num Fb B0 ρ w O h)(hg:iZ num gl gnum ρ w (λb=>Fb b\/O b)){kb s f:Nat}{avs:List AV}{v:AV}{eff:Eff}
  (h1:jK call kb s h f avs=some (v,eff)) {vs:List Value} (hv:aJ (Rv num ρ w (λb=>Fb b\/O b)) avs vs) :
  (∃fn,P.funcs[num f]?=some fn/\fn.body.isSome=true/\fn.name ≠ "runtime.NumGoroutine") /\
  Calls P (num f) vs.toArray w λe w'=>∃cv ρ' O',e = .returned cv/\Evo ρ w O ρ' w' O'/\HpR num Fb B0 ρ' w' O' (eff.app h)/\Rv num ρ' w' (λb=>Fb b\/O' b) v cv:=by
 unfold jK at h1;split at h1
 case h_2=>cases h1
 rename_i r h' hcall;dsimp only at h1;split at h1
 case isFalse=>cases h1
 rename_i hchk;cases h1;obtain⟨a1,a2⟩:=hc _ _ _ _ _ _ hcall;refine⟨a1,(a2 Fb B0 ρ O w vs H hg hv).mono ?_⟩;rintro e w' ⟨cv,ρ',O',rfl,q1,q2,q3⟩;refine⟨cv,ρ',O',rfl,q1,q2.ext (λk=>?_),q3⟩;simp only[Eff.app];rw[eK]at hchk;by_cases hk:∃x∈h++h',x.k=k;obtain⟨x,hx,rfl⟩:=hk;exact wV (hchk x hx);have n1:h.get k=none:=by
  cases hq:h.get k with
  |none=>rfl
  |some p=>obtain⟨x,hx,hxk⟩:=qY hq;exact absurd ⟨x,List.mem_append_left _ hx,hxk⟩ hk
 have n2:h'.get k=none:=by
  cases hq:h'.get k with
  |none=>rfl
  |some p=>obtain⟨x,hx,hxk⟩:=qY hq;exact absurd ⟨x,List.mem_append_right _ hx,hxk⟩ hk
 rw[n2,mA,n1];intro hm;obtain⟨x,hx,hxk⟩:=List.mem_map.1 hm;exact hk ⟨x,List.mem_append_right _ (List.mem_filter.1 hx).1,hxk⟩
theorem f9:∀{h0:Hp}{h:Hp}(k:Nat),gL h0=true->(aM h h0).get k=match h0.get k with|some p=>some p|none=>h.get k
 |[],h,k,_=>rfl
 |x::r,h,k,hn=>by
  simp only[gL,aD]at hn;simp only[aM];rw[f9 k hn.2];simp only[Hp.get,aB];by_cases hk:x.k=k;subst hk;have:Hp.get r x.k=none:=by
   cases hq:Hp.get r x.k with
   |none=>rfl
   |some p=>obtain⟨y,hy,hyk⟩:=qY hq;have:=eK.1 hn.1 y hy;simp[hyk]at this
  rw[this];simp;simp[hk]
theorem OH{f:Nat}{vs:List AV}:∀{n b:Nat}{r:AV}{rd:List Nat}{pa:List Ent},mS call h f vs n b=some (r,rd,pa)->∃b',call f vs b' []=some (r,pa)/\gL pa=true/\∀x∈pa,h.get x.k=none
 |0,_,_,_,_,h1=>by simp[mS]at h1
 |n+1,b,r,rd,pa,h1=>by
  unfold mS at h1;cases hc:call f vs b [] with
  |none=>simp[hc]at h1
  |some q=>
   obtain⟨r0,h0⟩:=q;simp only[hc]at h1;split at h1;rename_i hh;simp only[aD,eK,Option.isNone_iff_eq_none]at hh;cases h1;exact⟨b,hc,hh.1,hh.2⟩;split at h1
   case h_2=>cases h1
   rename_i r' rd' pa' ht;cases h1;exact OH ht
theorem HpR.loc_ge{k e:Nat}{o:Ob}{L:Loc}(H:HpR num Fb B0 ρ w O h)(hg:h.get k=some (e,o))(hl:o.live=true)(hL : ρ k e=some L):B0<=L.b:=by
 cases o with
 |dead=>cases hl
 |blk cs esz ag ti fz=>obtain⟨L',_,_,q1,_,_,_,_,_,_,q8,_⟩:=H.blk _ _ _ _ _ _ _ hg;rw[q1]at hL;cases hL;exact q8
 |mpo es=>obtain⟨L',_,_,q1,_,_,_,q8,_⟩:=H.mpo _ _ _ _ _ hg;rw[q1]at hL;cases hL;exact q8
 |itr=>obtain⟨L',_,q1,_,_,_,q8,_⟩:=H.ito _ _ _ _ _ _ _ hg;rw[q1]at hL;cases hL;exact q8
 |lp st b env ps ca cb=>obtain⟨L',_,q1,_,_,_,_,_,q8,_⟩:=H.lpo _ _ _ _ _ _ _ _ hg;rw[q1]at hL;cases hL;exact q8
theorem HpR.union{h0:Hp}{ρ1:Rho}{w':World}{O1:Nat->Prop}(H:HpR num Fb B0 ρ w O h)(ev:Evo (λ_ _=>none) w (λ_=>False) ρ1 w' O1)(H1:HpR num (λb=>Fb b\/O b) w.heap.size ρ1 w' O1 h0)
  (hn:gL h0=true) (hf:∀x∈h0,h.get x.k=none) :
  ∃ ρ2,Evo ρ w O ρ2 w' (λb=>O b\/O1 b)/\HpR num Fb B0 ρ2 w' (λb=>O b\/O1 b) (aM h h0)/\∀v c,Rv num ρ1 w' (λb=>(Fb b\/O b)\/O1 b) v c->Rv num ρ2 w' (λb=>Fb b\/(O b\/O1 b)) v c:=by
 let ρ2:Rho:=λk e=>match h0.get k with|some _ => ρ1 k e|none => ρ k e
 have hnone:∀k p,h.get k=some p->h0.get k=none:=by
  intro k p hk;cases hq:h0.get k with
  |none=>rfl
  |some q=>obtain⟨x,hx,rfl⟩:=qY hq;rw[hf x hx]at hk;cases hk
 have hA:∀k e L,ρ k e=some L -> ρ2 k e=some L:=by intro k e L hL;obtain⟨e',o,q1,_⟩:=H.ep k e L hL;simp only[ρ2,hnone k _ q1,hL]
 have hB:∀k e L,ρ1 k e=some L -> ρ2 k e=some L:=by intro k e L hL;obtain⟨e',o,q1,_⟩:=H1.ep k e L hL;simp only[ρ2,q1,hL]
 have hO1:∀b,O1 b->w.heap.size<=b:=λb hb=>(H1.own b hb).1
 have EV:Evo ρ w O ρ2 w' (λb=>O b\/O1 b):=
  ⟨ev.os,ev.tape,ev.output,ev.size,λb hb _=>ev.keep b hb (λq=>q),λb hb hO=>hO.elim id (λq=>by have:=hO1 b q;omega),hA⟩
 have hR:∀v c,Rv num ρ1 w' (λb=>(Fb b\/O b)\/O1 b) v c->Rv num ρ2 w' (λb=>Fb b\/(O b\/O1 b)) v c:=by intro v c hv;have:=hv.evo (ρ' := ρ2) (w':=w') (O':=O1) ⟨rfl,rfl,rfl,Nat.le_refl _,λ_ _ _=>rfl,λ_ _ q=>q,hB⟩;exact this.F_mono (λb hb=>by rcases hb with q|q|q<;>simp[q])
 have hget:∀k p,(aM h h0).get k=some p->(h0.get k=some p)\/(h0.get k=none/\h.get k=some p):=by intro k p hk;rw[f9 k hn]at hk;split at hk;rename_i q hq;rw[<-hk];exact .inl hq;rename_i hq;exact .inr ⟨hq,hk⟩
 refine⟨ρ2,EV,?_,hR⟩;refine {blk:=?_,mpo:=?_,lpo:=?_,ito:=?_,inj:=?_,ep:=?_,own:=?_,fbl:=H.fbl,le:=Nat.le_trans H.le ev.size};intro k e cs esz ag ti fz hk;rcases hget k _ hk with hk|⟨hn0,hk⟩
 obtain⟨L,c,T,q1,q2,q3,q4,q5,q6,q7,q8,q9,q10⟩:=H1.blk _ _ _ _ _ _ _ hk;refine⟨L,c,T,hB _ _ _ q1,q2,q3,q4,q5,q6,λi x hx=>?_,by have:=H.le;omega,λz => .inr (q9 z),λz hO=>?_⟩;obtain⟨y,y1,y2⟩:=q7 i x hx;exact⟨y,y1,hR _ _ y2⟩;rcases hO with hO|hO;have:=(H.own _ hO).2;omega;exact q10 z hO;obtain⟨L,c,T,q1,q2,q3,q4,q5,q6,q7,q8,q9,q10⟩:=H.blk _ _ _ _ _ _ _ hk;have hlt:=H.loc_lt hk (by intro e;cases e) q1;refine⟨L,c,T,hA _ _ _ q1,q2,q3,(ev.keep _ hlt (λq=>q)).trans q4,q5,q6,λi x hx=>?_,q8,λz => .inl (q9 z),λz hO=>?_⟩;obtain⟨y,y1,y2⟩:=q7 i x hx;exact⟨y,y1,y2.evo EV⟩;rcases hO with hO|hO;exact q10 z hO;have:=hO1 _ hO;omega;intro k e es bs ck hk;rcases hget k _ hk with hk|⟨hn0,hk⟩
 obtain⟨L,c,clock,q1,q2,q3,q4,q5,q6⟩:=H1.mpo _ _ _ _ _ hk;refine⟨L,c,clock,hB _ _ _ q1,q2,q3,λi x y hx hy=>?_,by have:=H.le;omega,.inr q6⟩;obtain⟨z1,z2,z3,z4⟩:=q4 i x y hx hy;exact⟨hR _ _ z1,hR _ _ z2,z3,z4⟩;obtain⟨L,c,clock,q1,q2,q3,q4,q5,q6⟩:=H.mpo _ _ _ _ _ hk;have hlt:=H.loc_lt hk (by intro e;cases e) q1;refine⟨L,c,clock,hA _ _ _ q1,(ev.keep _ hlt (λq=>q)).trans q2,q3,λi x y hx hy=>?_,q5,.inl q6⟩;obtain⟨z1,z2,z3,z4⟩:=q4 i x y hx hy;exact⟨z1.evo EV,z2.evo EV,z3,z4⟩;intro k e st b env ps ca cb hk;rcases hget k _ hk with hk|⟨hn0,hk⟩
 obtain⟨L,r,q1,q2,q3,q4,q5,q6,q7,q8⟩:=H1.lpo _ _ _ _ _ _ _ _ hk;exact⟨L,r,hB _ _ _ q1,q2,q3,q4,q5,λi x y hx hy=>hR _ _ (q6 i x y hx hy),by have:=H.le;omega,.inr q8⟩;obtain⟨L,r,q1,q2,q3,q4,q5,q6,q7,q8⟩:=H.lpo _ _ _ _ _ _ _ _ hk;have hlt:=H.loc_lt hk (by intro e;cases e) q1;exact⟨L,r,hA _ _ _ q1,(ev.keep _ hlt (λq=>q)).trans q2,q3,q4,q5,λi x y hx hy=>(q6 i x y hx hy).evo EV,q7,.inl q8⟩;intro k e mk me since seen last hk;rcases hget k _ hk with hk|⟨hn0,hk⟩
 obtain⟨L,Lm,q1,q2,q3,q4,q5,q6⟩:=H1.ito _ _ _ _ _ _ _ hk;exact⟨L,Lm,hB _ _ _ q1,hB _ _ _ q2,q3,q4,by have:=H.le;omega,.inr q6⟩;obtain⟨L,Lm,q1,q2,q3,q4,q5,q6⟩:=H.ito _ _ _ _ _ _ _ hk;have hlt:=H.loc_lt hk (by intro e;cases e) q1;exact⟨L,Lm,hA _ _ _ q1,hA _ _ _ q2,(ev.keep _ hlt (λq=>q)).trans q3,q4,q5,.inl q6⟩;intro k k' e e' o o' L L' g1 g2 l1 l2 r1 r2 hb;rcases hget k _ g1 with g1|⟨n1,g1⟩<;>rcases hget k' _ g2 with g2|⟨n2,g2⟩
 simp only[ρ2,g1]at r1;simp only[ρ2,g2]at r2;exact H1.inj k k' e e' o o' L L' g1 g2 l1 l2 r1 r2 hb;simp only[ρ2,g1]at r1;simp only[ρ2,n2]at r2;have h1:=H1.loc_ge g1 l1 r1;have h2:=H.loc_lt g2 (by intro e;subst e;cases l2) r2;omega;simp only[ρ2,n1]at r1;simp only[ρ2,g2]at r2;have h1:=H1.loc_ge g2 l2 r2;have h2:=H.loc_lt g1 (by intro e;subst e;cases l1) r1;omega;simp only[ρ2,n1]at r1;simp only[ρ2,n2]at r2;exact H.inj k k' e e' o o' L L' g1 g2 l1 l2 r1 r2 hb;intro k e L hL;cases hq:h0.get k with
 |some p=>simp only[ρ2,hq]at hL;obtain⟨e',o,q1,q2⟩:=H1.ep k e L hL;exact⟨e',o,by rw[f9 k hn,q1],q2⟩
 |none=>simp only[ρ2,hq]at hL;obtain⟨e',o,q1,q2⟩:=H.ep k e L hL;exact⟨e',o,by rw[f9 k hn,hq];exact q1,q2⟩
 intro b hb;rcases hb with hb|hb;exact⟨(H.own b hb).1,Nat.lt_of_lt_of_le (H.own b hb).2 ev.size⟩;have:=H.le;exact⟨by have:=(H1.own b hb).1;omega,(H1.own b hb).2⟩
theorem B3:∀{l:List AV},treeL l=true->∀x∈l,x.tree=true
 |[],_,_,hx=>by cases hx
 |y::r,h,x,hx=>by simp only[treeL,aD]at h;rcases List.mem_cons.1 hx with rfl|hx;exact h.1;exact B3 h.2 x hx
theorem HG(hc:gP P num gl gnum call)(H:HpR num Fb B0 ρ w O h)(hg:iZ num gl gnum ρ w (λb=>Fb b\/O b)){kb s f:Nat}{avs:List AV}{v:AV}{eff:Eff}
  (h1:kG call kb s h f avs=some (v,eff)) {vs:List Value} (hv:aJ (Rv num ρ w (λb=>Fb b\/O b)) avs vs) :
  (∃fn,P.funcs[num f]?=some fn/\fn.body.isSome=true/\fn.name ≠ "runtime.NumGoroutine") /\
  Calls P (num f) vs.toArray w λe w'=>∃cv ρ' O',e = .returned cv/\Evo ρ w O ρ' w' O'/\HpR num Fb B0 ρ' w' O' (eff.app h)/\Rv num ρ' w' (λb=>Fb b\/O' b) v cv:=by
 unfold kG at h1;split at h1
 case isFalse=>cases h1
 rename_i htr;split at h1
 case h_2=>cases h1
 rename_i r rd pa ht;cases h1;obtain⟨b',hcall,hn,hf⟩:=OH ht;obtain⟨a1,a2⟩:=hc _ _ _ _ _ _ hcall;have hF:∀b,(Fb b\/O b)->b<w.heap.size:=by intro b hb;rcases hb with q|q;have:=H.fbl _ q;have:=H.le;omega;exact(H.own _ q).2
 have hargs:aJ (Rv num (λ_ _=>none) w (λb=>(Fb b\/O b)\/False)) avs vs:=by refine aJ.of_get hv.length ?_;intro i x y hx hy;exact(hv.get i x y hx hy).tree_mono (B3 htr x (List.mem_of_getElem? hx)) (λb hb=>hb.elim id False.elim)
 have hgl:iZ num gl gnum (λ_ _=>none) w (λb=>(Fb b\/O b)\/False):=by intro g u hu;obtain⟨t1,t2⟩:=hg g u hu;exact⟨t1,t2.tree_mono (by simpa[AV.tree] using t1.1) (λb hb=>hb.elim id False.elim)⟩
 refine⟨a1,(a2 (λb=>Fb b\/O b) w.heap.size (λ_ _=>none) (λ_=>False) w vs (HpR.start _ w hF) hgl hargs).mono ?_⟩;rintro e w' ⟨cv,ρ1,O1,rfl,ev,H1,hr⟩;obtain⟨ρ2,q1,q2,q3⟩:=H.union ev H1 hn hf;exact⟨cv,ρ2,_,rfl,q1,q2,q3 _ _ hr⟩
theorem LF(hc:gP P num gl gnum call)(H:HpR num Fb B0 ρ w O h)(hg:iZ num gl gnum ρ w (λb=>Fb b\/O b)){kb s f:Nat}{th im:Bool}{avs:List AV}{v:AV}{eff:Eff}
  (h1:jT call kb s h f th im avs=some (v,eff)) {vs:List Value} (hv:aJ (Rv num ρ w (λb=>Fb b\/O b)) avs vs) :
  (∃fn,P.funcs[num f]?=some fn/\fn.body.isSome=true/\fn.name ≠ "runtime.NumGoroutine") /\
  Calls P (num f) vs.toArray w λe w'=>∃cv ρ' O',e = .returned cv/\Evo ρ w O ρ' w' O'/\HpR num Fb B0 ρ' w' O' (eff.app h)/\Rv num ρ' w' (λb=>Fb b\/O' b) v cv:=by
 unfold jT at h1;split at h1;rename_i ts keys hm;cases im with
 |true=>simp at hm
 |false=>
  simp at hm;split at h1
  case h_2=>cases h1
  rename_i r hr;split at h1
  case h_2=>cases h1
  rename_i v' pa hrec;cases h1;obtain⟨m1,m2⟩:=gR hm
  let Fb':Nat->Prop:=λb=>(Fb b\/O b)/\¬SB ρ h keys b
  have hlt:∀b,Fb' b->b<w.heap.size:=by intro b hb;rcases hb.1 with q|q;have:=H.fbl _ q;have:=H.le;omega;exact(H.own _ q).2
  have hargs:aJ (Rv num (λ_ _=>none) w Fb') ts vs:=by
   refine aJ.of_get (by have:=hv.length;omega) ?_;intro i x y hx hy;have hi:i<avs.length:=by have:=(cF.1 hx).1;omega
   obtain⟨x',s',p1,p2,p3⟩:=m2 i avs[i] (by simp[hi]);rw[hx]at p1;cases p1
   exact dU H (F':=Fb') (λb hb=>hb.1) depth _ _ _ _ p2 (hv.get i _ y (by simp[hi]) hy) (λb hb hF=>hF.2 (by
    obtain⟨k,e,o,L,q1,q2⟩:=hb;exact⟨k,e,o,L,p3 k q1,q2⟩))
  have hgl:iZ num gl gnum (λ_ _=>none) w Fb':=by intro g u hu;obtain⟨t1,t2⟩:=hg g u hu;exact⟨t1,t2.tree_mono (by simpa[AV.tree] using t1.1) (λb hb=>hb.1)⟩
  obtain⟨a1,a2⟩:=w9 (Fb:=Fb') hc hr hlt hgl hargs;refine⟨a1,a2.mono ?_⟩;rintro e w' ⟨cv,rfl,ev,hres⟩;obtain⟨ρ',O',e1,e2,e3⟩:=BS (Fb':=Fb') (S:=keys) H ev (λb hb hnb=>⟨hb,hnb⟩) hres hrec;exact⟨cv,ρ',O',rfl,e1,e2,e3⟩
 split at h1
 case h_2=>cases h1
 rename_i r h' hcall;cases h1;obtain⟨a1,a2⟩:=hc _ _ _ _ _ _ hcall;exact⟨a1,a2 Fb B0 ρ O w vs H hg hv⟩
end
def fitXs(num gnum:Nat->Nat):List X->List Operand->Bool
 |[],[]=>true
 |x::r,o::s=>fitX num gnum x o&&fitXs num gnum r s
 |_,_=>false
def fitR(P:Program)(num gnum:Nat->Nat)(ops:Array Oper)(o:Oper)(r:R):Bool:=
 r.d==o.dst&&(match fitK P num o r.k with|some l=>fitXs num gnum r.xs l|none=>false) &&
 (match o.guard,r.gd with
  |none,none=>true
  |some (j,b),some (t,c)=>b==c&&(ops[j]?).bind (·.dst)==some t
  |_,_=>false)
def sC(w:World)(F:Nat->Prop):List Deferred->Prop
 |[]=>True
 |d::r=>(∃D,d={target:=.collected D,args := #[]}/\¬F D/\w.heap[D]?=some (.deferred (some []))/\∀d'∈r,d'.target ≠ .collected D)/\sC w F r
theorem sC.evo{num:Nm}{Fb O O':Nat->Prop}{ρ ρ':Rho}{w w':World}(ev:Evo ρ w O ρ' w' O'):∀{l:List Deferred},sC w (λb=>Fb b\/O b) l->sC w' (λb=>Fb b\/O' b) l
 |[],_=>trivial
 |d::r,⟨⟨D,h1,h2,h3,h4⟩,h5⟩=>by
  have hb:D<w.heap.size:=by by_cases hlt:D<w.heap.size;exact hlt;simp[Array.getElem?_eq_none (Nat.le_of_not_lt hlt)]at h3
  exact⟨⟨D,h1,λh=>h2 (h.imp id (ev.own D hb)),(ev.keep D hb (λh=>h2 (.inr h))).trans h3,h4⟩,sC.evo (num:=num) ev h5⟩
structure pI(num:Nm)(ρ : Rho)(w:World)(F:Nat->Prop)(env:List AV)(a:Act):Prop where
 size:env.length=a.tmps.size
 get:∀(t:Nat)(x:AV)(y:Value),env[t]?=some x->a.tmps[t]?=some y->Rv num ρ w F x y
 defers:sC w F a.defers
def gH(num:Nm)(gl:Nat->Option AV)(gnum:Nat->Nat)(Fb:Nat->Prop)(B0:Nat)(ρ0:Rho)(w0:World)(O0:Nat->Prop)(st:St)(a:Act)(w:World):Prop:=
 ∃ ρ O,Evo ρ0 w0 O0 ρ w O/\HpR num Fb B0 ρ w O st.hp/\iZ num gl gnum ρ w (λb=>Fb b\/O b)/\pI num ρ w (λb=>Fb b\/O b) st.env a/\∀d∈a.defers,∀D,d.target = .collected D->w0.heap.size<=D
section
variable{P:Program}{num:Nm}{gl:Nat->Option AV}{gnum:Nat->Nat}{call:aW}{Fb:Nat->Prop}{B0:Nat}{ρ ρ0:Rho}{w w0:World}{O O0:Nat->Prop}{h:Hp}
theorem iZ.evo{ρ':Rho}{w':World}{O':Nat->Prop}(hg:iZ num gl gnum ρ w (λb=>Fb b\/O b))(ev:Evo ρ w O ρ' w' O'):iZ num gl gnum ρ' w' (λb=>Fb b\/O' b):=
 λg v q=>⟨⟨(hg g v q).1.1,by
  obtain⟨c,T,fr,h1,h2⟩:=(hg g v q).1.2;obtain⟨b,off,m,hx,hF,hb,_⟩:=(hg g v q).2.of_fp;cases hx;exact⟨c,T,fr,(ev.keep _ hb (λh=>hF (.inr h))).trans h1,h2⟩⟩,(hg g v q).2.evo ev⟩
theorem pI.evo{ρ':Rho}{w':World}{O':Nat->Prop}{env:List AV}{a:Act}(he:pI num ρ w (λb=>Fb b\/O b) env a)(ev:Evo ρ w O ρ' w' O'):pI num ρ' w' (λb=>Fb b\/O' b) env a:=
 ⟨he.size,λt x y hx hy=>(he.get t x y hx hy).evo ev,he.defers.evo (num:=num) ev⟩
theorem oS(a:Act)(d:Option Tmp)(c:Value):(a.put d c).defers=a.defers:=by cases d<;>rfl
theorem pI.put{F:Nat->Prop}{env:List AV}{a:Act}(he:pI num ρ w F env a){v:AV}{c:Value}(hv:Rv num ρ w F v c)(d:Option Tmp):pI num ρ w F (eH env d v) (a.put d c):=by
 cases d with
 |none=>exact he
 |some d=>refine⟨by simp[eH,Act.put,he.size],?_,he.defers⟩;intro t x y hx hy;simp only[eH,Act.put,List.getElem?_set,Array.getElem?_setIfInBounds]at hx hy;have:=he.size;by_cases ht:d=t;subst ht;simp only[if_true]at hx hy;split at hx;cases hx;split at hy;cases hy;exact hv;cases hy;cases hx;rw[if_neg ht]at hx hy;exact he.get t x y hx hy
theorem pI.tmp{F:Nat->Prop}{env:List AV}{a:Act}(he:pI num ρ w F env a)(t:Nat):Rv num ρ w F (gB env t) (a.tmps.getD t undef):=by
 unfold gB;rcases Nat.lt_or_ge t env.length with q|q;have q':t<a.tmps.size:=by have:=he.size;omega
 have:=he.get t env[t] a.tmps[t] (by simp[q]) (by simp[q']);simpa[q,q'] using this;rw[cY q];exact .top _
theorem AG{env:List AV}{a:Act}{F:Nat->Prop}(he:pI num ρ w F env a)(hg:iZ num gl gnum ρ w F){x:X}{o:Operand}(hf:fitX num gnum x o=true):Rv num ρ w F (x.ev gl env) (a.eval o):=by
 unfold fitX at hf;split at hf;obtain rfl:=by simpa using hf
 exact he.tmp _;exact fitV_sound hf;rename_i n g;obtain rfl:gnum n=g:=by simpa using hf
 cases hgl:gl n with
 |none=>simp only[X.ev,hgl];exact .top _
 |some v=>simp only[X.ev,hgl];exact(hg n v hgl).2
 rename_i n f;obtain rfl:num n=f:=by simpa using hf
 exact .fn n [] #[] rfl (by intro i x y hx;simp at hx);cases hf
theorem DH{env:List AV}{a:Act}{F:Nat->Prop}(he:pI num ρ w F env a)(hg:iZ num gl gnum ρ w F):∀{xs:List X}{os:List Operand},fitXs num gnum xs os=true ->
  aJ (Rv num ρ w F) (xs.map (X.ev gl env)) (os.map a.eval)
 |[],[],_ => .nil
 |[],_::_,h=>by simp[fitXs]at h
 |_::_,[],h=>by simp[fitXs]at h
 |_::_,_::_,h=>by simp only[fitXs,aD]at h;exact .cons (AG he hg h.1) (DH he hg h.2)
theorem aJ.split{α β : Type}{R : α -> β -> Prop}:∀{l l':List α}{m m':List β},l.length=m.length->aJ R (l++l') (m++m')->aJ R l m/\aJ R l' m'
 |[],_,[],_,_,h=>⟨.nil,h⟩
 |[],_,_::_,_,h,_=>by simp at h
 |_::_,_,[],_,h,_=>by simp at h
 |_::_,_,_::_,_,hl,h=>by
  cases h with
  |cons h1 h2=>obtain⟨a,b⟩:=aJ.split (by simpa using hl) h2;exact⟨.cons h1 a,b⟩
theorem fI {g:Nat} {args:Array Value} (w:World) (h:∃fn,P.funcs[g]?=some fn/\fn.body.isSome=true/\fn.name ≠ "runtime.NumGoroutine") :
  (callFunc g args).run P w = .ok (.enter g args) w:=by
 obtain⟨fn,h1,h2,h3⟩:=h;have hb:fn.body.isNone=false:=by cases hbb:fn.body<;>simp[hbb]at h2 ⊢
 simp[callFunc,h1,h3];intro q;rw[q]at h2;cases h2
def QA(P:Program)(num:Nm)(gl:Nat->Option AV)(gnum:Nat->Nat)(call:aW):Prop:=
 ∀k e avs h r h',call.yl k e avs h=some (r,h') ->
  ∀(Fb:Nat->Prop)(B0:Nat)(ρ : Rho)(O:Nat->Prop)(w:World)(vs:List Value)(L:Loc),HpR num Fb B0 ρ w O h->iZ num gl gnum ρ w (λb=>Fb b\/O b) ->
   aJ (Rv num ρ w (λb=>Fb b\/O b)) avs vs -> ρ k e=some L ->
   ∃fn tmps assign body,(Instr.yield L.b vs.toArray).run P w = .ok (.round L.b fn tmps assign body) w /\
    RoundIn Fence.wide 0 P L.b fn tmps assign body w λen w'=>∃cv ρ' O',en = .returned cv/\Evo ρ w O ρ' w' O'/\HpR num Fb B0 ρ' w' O' h'/\Rv num ρ' w' (λb=>Fb b\/O' b) r cv
structure lW(P:Program)(num:Nm)(gl:Nat->Option AV)(gnum:Nat->Nat)(call:aW):Prop where
 fn:gP P num gl gnum call
 yl:QA P num gl gnum call
abbrev FW(ro:Option Nat):Fence:={Fence.wide with round:=ro}
theorem s8{ro:Option Nat}{n:Nat}{f:FuncId}{args:Array Value}{R:Ending->World->Prop}(h:Calls P f args w R):CallsIn (FW ro) n P f args w R:=
 callsIn_wide (n:=n).2 h
theorem fitK_notDefer{num:Nat->Nat}{o:Oper}{k:K}{l:List Operand}(h:fitK P num o k=some l)(hb:k ≠ .bad):∀c,o.op ≠ .defer c:=by intro c hd;cases k<;>simp_all [fitK,oH,aGp]
theorem MB{ro:Option Nat}(hc:lW P num gl gnum call){kb:Nat}{r:R}{o:Oper}{l:List Operand}{st:St}{a:Act}{v:AV}{eff:Eff}(H:HpR num Fb B0 ρ w O st.hp)(hg:iZ num gl gnum ρ w (λb=>Fb b\/O b))
  (he:pI num ρ w (λb=>Fb b\/O b) st.env a) (hf:fitK P num o r.k=some l) (hx:fitXs num gnum r.xs l=true) (h1:opR call kb r st.hp (r.xs.map (X.ev gl st.env))=some (v,eff))
  {K:Act->World->Prop} {Q:Exit->Act->World->Prop}
  (hK:∀cv w' ρ' O',Evo ρ w O ρ' w' O'->HpR num Fb B0 ρ' w' O' (eff.app st.hp)->Rv num ρ' w' (λb=>Fb b\/O' b) v cv->K (a.put o.dst cv) w'):o.wpIn (FW ro) 0 P a w K Q:=by
 have hv:=DH he hg hx;generalize r.xs.map (X.ev gl st.env)=vs at *;have hbd:r.k ≠ .bad:=by intro q;simp only[opR,q,FE]at h1;simp[op1]at h1
 refine⟨λ_ _=>trivial,?_⟩;rw[Oper.semAt_eq _ _ _ (fitK_notDefer hf hbd)];have hcall0:∀(f:Nat) (cvs:List Value),((∃fn,P.funcs[num f]?=some fn/\fn.body.isSome=true/\fn.name ≠ "runtime.NumGoroutine") /\
   Calls P (num f) cvs.toArray w λe w'=>∃cv ρ' O',e = .returned cv/\Evo ρ w O ρ' w' O'/\HpR num Fb B0 ρ' w' O' (eff.app st.hp)/\Rv num ρ' w' (λb=>Fb b\/O' b) v cv) ->
   ((∃fn,P.funcs[num f]?=some fn/\fn.body.isSome=true/\fn.name ≠ "runtime.NumGoroutine")->(execOp a.eval o).run P w = .ok (.enter (num f) cvs.toArray) w)->o.uponIn (FW ro) 0 P a K Q ((execOp a.eval o).run P w):=by
  intro f cvs hca hrun;obtain⟨a1,a2⟩:=hca;rw[hrun a1,Oper.uponIn_enter];refine⟨λh=>by simp[Fence.wide]at h,(s8 a2).mono ?_⟩;rintro e w' ⟨cv,ρ',O',rfl,q1,q2,q3⟩;exact hK cv w' ρ' O' q1 q2 q3
 have hcall:∀(f:Nat)(avs:List AV)(cvs:List Value)(th im:Bool),jT call kb r.s st.hp f th im avs=some (v,eff)->aJ (Rv num ρ w (λb=>Fb b\/O b)) avs cvs ->
   ((∃fn,P.funcs[num f]?=some fn/\fn.body.isSome=true/\fn.name ≠ "runtime.NumGoroutine")->(execOp a.eval o).run P w = .ok (.enter (num f) cvs.toArray) w)->o.uponIn (FW ro) 0 P a K Q ((execOp a.eval o).run P w):=by
  intro f avs cvs th im hca hav hrun;obtain⟨a1,a2⟩:=LF hc.fn H hg hca hav;rw[hrun a1,Oper.uponIn_enter];refine⟨λh=>by simp[Fence.wide]at h,(s8 a2).mono ?_⟩;rintro e w' ⟨cv,ρ',O',rfl,q1,q2,q3⟩;exact hK cv w' ρ' O' q1 q2 q3
 cases hk:r.k with
 |call f th im=>
  rw[hk]at hf;simp only[opR,hk]at h1;simp only[fitK]at hf;split at hf
  case h_2=>cases hf
  rename_i g args tys ho;obtain⟨hgd,rfl⟩:=aL hf;obtain rfl:num f=g:=by simpa using hgd
  refine hcall f vs (args.toList.map a.eval) th im h1 hv (λhfn=>?_);have hm:(args.toList.map a.eval).toArray=args.map a.eval:=by rw[<-Array.toList_map]
  rw[hm];have:=fI (P:=P) (g:=num f) (args:=args.map a.eval) w hfn;simp[execOp,ho,resolve,Act.eval,Deferred.ofValue,invoke,this]
 |calle f=>
  rw[hk]at hf;simp only[opR,hk]at h1;simp only[fitK]at hf;split at hf
  case h_2=>cases hf
  rename_i g args tys ho;obtain⟨hgd,rfl⟩:=aL hf;obtain rfl:num f=g:=by simpa using hgd
  refine hcall0 f (args.toList.map a.eval) (HG hc.fn H hg h1 hv) (λhfn=>?_);have hm:(args.toList.map a.eval).toArray=args.map a.eval:=by rw[<-Array.toList_map]
  rw[hm];have:=fI (P:=P) (g:=num f) (args:=args.map a.eval) w hfn;simp[execOp,ho,resolve,Act.eval,Deferred.ofValue,invoke,this]
 |callr f=>
  rw[hk]at hf;simp only[opR,hk]at h1;simp only[fitK]at hf;split at hf
  case h_2=>cases hf
  rename_i g args tys ho;obtain⟨hgd,rfl⟩:=aL hf;obtain rfl:num f=g:=by simpa using hgd
  refine hcall0 f (args.toList.map a.eval) (uU hc.fn H hg h1 hv) (λhfn=>?_);have hm:(args.toList.map a.eval).toArray=args.map a.eval:=by rw[<-Array.toList_map]
  rw[hm];have:=fI (P:=P) (g:=num f) (args:=args.map a.eval) w hfn;simp[execOp,ho,resolve,Act.eval,Deferred.ofValue,invoke,this]
 |callvr=>
  rw[hk]at hf;simp only[opR,hk]at h1;simp only[fitK]at hf;split at hf
  case h_2=>cases hf
  rename_i fo args tys ho;cases hf;split at h1
  case h_2=>cases h1
  rename_i f cs avs;cases hv with
  |cons hfv hav=>
   obtain⟨cvs,hfe,hcl,hcg⟩:=hfv.of_fn;have hcv:aJ (Rv num ρ w (λb=>Fb b\/O b)) cs cvs.toList:=aJ.of_get (by simpa using hcl) (λi x y hx hy=>hcg i x y hx (by simpa using hy));refine hcall0 f (args.toList.map a.eval++cvs.toList) (uU hc.fn H hg h1 (hav.append hcv)) (λhfn=>?_);have hm:(args.toList.map a.eval++cvs.toList).toArray=args.map a.eval++cvs:=by apply Array.ext';simp
   rw[hm];have:=fI (P:=P) (g:=num f) (args:=args.map a.eval++cvs) w hfn;simp[execOp,ho,resolve,hfe,Deferred.ofValue,invoke,this]
 |inv tb th im=>
  rw[hk]at hf;simp only[opR,hk]at h1;simp only[fitK]at hf;split at hf
  case h_2=>cases hf
  rename_i x name args tys ho;obtain⟨hgd,rfl⟩:=aL hf;split at h1
  case h_2=>cases h1
  rename_i t v0 avs;split at h1
  case h_2=>cases h1
  rename_i f hft;cases hv with
  |cons hfv hav=>
   obtain⟨c',hfe,hr⟩:=hfv.of_ift;have hmt:OW P (num t) name (num f)=true:=by have:=eK.1 hgd (t,f) (DC hft);simpa using this
   refine hcall f _ (c' :: args.toList.map a.eval) th im h1 (.cons hr hav) (λhfn=>?_);have hm:(c' :: args.toList.map a.eval).toArray = #[c']++args.map a.eval:=by apply Array.ext';simp
   rw[hm];have:=fI (P:=P) (g:=num f) (args := #[c']++args.map a.eval) w hfn;have hd:P.types.size+Made.depth=(P.types.size+99)+1:=rfl;have he:(#[Value.iface (num t) c']++Array.map a.eval args)[0]?=some (Value.iface (num t) c'):=by simp[Array.getElem?_append]
   have hx:(Array.map a.eval args).extract 0 args.size=Array.map a.eval args:=by apply Array.ext';simp[List.extract,List.take_of_length_le]
   simp[execOp,ho,resolve,hfe,invoke,callMethod,he,hx,hd,LZ _ hmt,this]
 |callv th im=>
  rw[hk]at hf;simp only[opR,hk]at h1;simp only[fitK]at hf;split at hf
  case h_2=>cases hf
  rename_i fo args tys ho;cases hf;split at h1
  case h_4=>cases h1
  case h_3=>
   rename_i f x avs;cases hv with
   |cons hfv hav=>
    obtain⟨c',hfe,hr⟩:=hfv.of_fnm;refine hcall f _ (c' :: args.toList.map a.eval) th im h1 (.cons hr hav) (λhfn=>?_);have hm:(c' :: args.toList.map a.eval).toArray = #[c']++args.map a.eval:=by apply Array.ext';simp
    rw[hm];have:=fI (P:=P) (g:=num f) (args := #[c']++args.map a.eval) w hfn;simp[execOp,ho,resolve,hfe,Deferred.ofValue,invoke,this]
  case h_2=>
   rename_i k e avs;split at h1
   case h_2=>cases h1
   rename_i v' h' hy;cases h1;cases hv with
   |cons hfv hav=>
    obtain⟨L,hfe,hL⟩:=hfv.of_yl;obtain⟨fn,tmps,assign,body,q1,q2⟩:=hc.yl _ _ _ _ _ _ hy Fb B0 ρ O w _ L H hg hav hL;have hm:(args.toList.map a.eval).toArray=args.map a.eval:=by rw[<-Array.toList_map]
    rw[hm]at q1;have hrun:(execOp a.eval o).run P w = .ok (.round L.b fn tmps assign body) w:=by simp[execOp,ho,resolve,hfe,Deferred.ofValue,invoke,q1]
    rw[hrun,Oper.uponIn_round];refine⟨λh=>by simp[Fence.wide]at h,?_⟩;refine RoundIn.mono (F:=FW ro) q2 ?_;rintro en w' ⟨cv,ρ',O',rfl,z1,z2,z3⟩;exact hK cv w' ρ' O' z1 z2 z3
  rename_i f cs avs;cases hv with
  |cons hfv hav=>
   obtain⟨cvs,hfe,hcl,hcg⟩:=hfv.of_fn;have hcv:aJ (Rv num ρ w (λb=>Fb b\/O b)) cs cvs.toList:=aJ.of_get (by simpa using hcl) (λi x y hx hy=>hcg i x y hx (by simpa using hy));refine hcall f _ (args.toList.map a.eval++cvs.toList) th im h1 (hav.append hcv) (λhfn=>?_);have hm:(args.toList.map a.eval++cvs.toList).toArray=args.map a.eval++cvs:=by apply Array.ext';simp
   rw[hm];have:=fI (P:=P) (g:=num f) (args:=args.map a.eval++cvs) w hfn;simp[execOp,ho,resolve,hfe,Deferred.ofValue,invoke,this]
 |_=>
  all_goals
   have h2:op1 st.hp (kb+r.s) r.k vs=some (v,eff):=by rw[hk];simpa only[opR,hk,FE] using h1
   obtain⟨n,cv,w',ρ',O',hr,hn,ev,H',hvv⟩:=RB (P:=P) H (ρv:=a.eval) (λ_=>rfl) (λ_=>rfl) hv hf h2;rw[hr];rcases hn with rfl|⟨rfl,rfl⟩
   exact hK _ _ _ _ ev H' hvv;exact hK _ _ _ _ ev H' hvv
theorem sF{ro:Option Nat}(hc:lW P num gl gnum call){kb i:Nat}{ops:Array Oper}{r:R}{o:Oper}{st st':St}{eff:Eff}{a:Act}(hi:ops[i]?=some o)(hfit:fitR P num gnum ops o r=true)
  (hG:gH num gl gnum Fb B0 ρ0 w0 O0 st a w) (hs:iB gl call kb r st=some (st',eff)) {K:Act->World->Prop} {Q:Exit->Act->World->Prop} (hK:∀a' w',gH num gl gnum Fb B0 ρ0 w0 O0 st' a' w'->K a' w') :
  wpOpIn (FW ro) 0 P ops Q i K a w:=by
 unfold fitR at hfit;simp only[aD,beq_iff_eq]at hfit;obtain⟨⟨hd,hk⟩,hgd⟩:=hfit;obtain⟨ρ,O,ev0,H,hg,he,hmk⟩:=hG;have hw:wanted st.env r.gd=some (Region.wanted o (yielded ops a.tmps))\/wanted st.env r.gd=none:=by
  unfold wanted Region.wanted;cases hog:o.guard with
  |none=>
   cases hrg:r.gd with
   |none=>exact .inl rfl
   |some p=>simp[hog,hrg]at hgd
  |some p=>
   obtain⟨j,b⟩:=p;cases hrg:r.gd with
   |none=>simp[hog,hrg]at hgd
   |some q=>
    obtain⟨t,c⟩:=q;simp only[hog,hrg,aD,beq_iff_eq]at hgd;obtain⟨rfl,hdst⟩:=hgd;have ht:=he.tmp t;simp only
    have hin:∀x,gB st.env t=x->x ≠ .top->∃y,a.tmps[t]?=some y/\Rv num ρ w (λb=>Fb b\/O b) x y:=by
     intro x hx hne;rcases Nat.lt_or_ge t st.env.length with q|q;have q':t<a.tmps.size:=by have:=he.size;omega
     refine⟨a.tmps[t],by simp[q'],?_⟩;rw[<-hx];simpa[q'] using ht;exfalso;apply hne;rw[<-hx];unfold gB;rw[cY q];rfl
    split;rename_i c' hcb;obtain⟨y,hy,hyr⟩:=hin _ hcb (by simp);have:=hyr.of_bool;subst this;left;simp[yielded,hdst,hy];rename_i hcb;obtain⟨y,hy,hyr⟩:=hin _ hcb (by simp);obtain⟨vs,rfl,hl,_⟩:=hyr.of_tup;left;simp[yielded,hdst,hy];exact .inr rfl
 unfold wpOpIn;rw[hi];simp only;unfold iB at hs;rcases hw with hw|hw
 case inr=>rw[hw]at hs;cases hs
 rw[hw]at hs;cases hwb:Region.wanted o (yielded ops a.tmps) with
 |false=>rw[hwb]at hs;simp only at hs;cases hs;simp only[Bool.false_eq_true,if_false];refine⟨λ_ _=>trivial,hK _ _ ⟨ρ,O,ev0,H,hg,?_,by rw[oS];exact hmk⟩⟩;rw[<-hd];exact he.put (.tup [] #[] rfl (by intro i x y hx;simp at hx)) r.d
 |true=>
  rw[hwb]at hs;simp only at hs;split at hs
  case h_2=>cases hs
  rename_i v eff' hop;cases hs;simp only[if_true];split at hk
  case h_2=>cases hk
  rename_i l hfk;refine MB hc H hg he hfk hk hop ?_;intro cv w' ρ' O' e1 e2 e3;refine hK _ _ ⟨ρ',O',ev0.trans e1,e2,hg.evo e1,?_,by rw[oS];exact hmk⟩;rw[<-hd];exact(he.evo e1).put e3 r.d
end
end
end Go.Tev
