import Derived.Test.YtmcadllokkmeiaaGreatDoorSAA
import Derived.WalkKit
import Derived.Laws.StructEq
import Derived.Laws.Cover1
import Derived.Laws.Strings
import Derived.Laws.Concat
import Derived.Laws.Build
set_option linter.all false
section
namespace Go.Tev
open Go.RowKit
section
variable{num:Nm}{Fb:Nat->Prop}{B0:Nat}{ρ ρ':Rho}{w w':World}{O O':Nat->Prop}{h:Hp}
def V7(num:Nm)(Fb:Nat->Prop)(B0:Nat)(ρ : Rho)(w:World)(O:Nat->Prop)(k e:Nat):Ob->Prop
 |.blk cs esz _ ti fz=>∃(L:Loc)(c:Array Value)(T:TypeId),ρ k e=some L/\L.tight=ti/\L.esz=esz /\
  w.heap[L.b]?=some (.cells c T (0,0))/\L.base+L.room<=c.size/\cs.length<=L.room /\
  (∀(i:Nat)(x:AV),cs[i]?=some x->∃y,c[L.base+i]?=some y/\Rv num ρ w (fun b=>Fb b\/O b) x y)/\B0<=L.b/\(fz=false->O L.b)/\(fz=true->¬O L.b)
 |.mpo es bs ck=>∃(L:Loc)(c:Array MapEntry)(clock:Nat),ρ k e=some L/\w.heap[L.b]?=some (.map c clock)/\(es.length=c.size/\clock=ck/\c.toList.map MapEntry.born=bs) /\
  (∀(i:Nat)(x:AV×AV)(y:MapEntry),es[i]?=some x->c[i]?=some y->Rv num ρ w (fun b=>Fb b\/O b) x.1 y.key/\Rv num ρ w (fun b=>Fb b\/O b) x.2 y.val/\x.1.key=true/\x.2.fits x.2.cells.length x.2.isAgg=true) /\
  B0<=L.b/\O L.b
 |.lp st _ env ps ca cb=>∃(L:Loc)(r:Loop),ρ k e=some L/\w.heap[L.b]?=some (.loop r)/\num.lk ps ca cb r/\K3 st r/\env.length=r.tmps.size /\
  (∀(i:Nat)(x:AV)(y:Value),env[i]?=some x->r.tmps[i]?=some y->Rv num ρ w (fun b=>Fb b\/O b) x y)/\B0<=L.b/\O L.b
 |.itr mk me since seen last=>∃(L Lm:Loc),ρ k e=some L /\ ρ mk me=some Lm/\w.heap[L.b]?=some (.mapIter (some Lm.b) since seen.toArray last)/\L.base=0/\B0<=L.b/\O L.b
 |.dead=>True
theorem HpR.put{k e:Nat}{o:Ob}(H:HpR num Fb B0 ρ w O h)(ev:Evo ρ w O ρ' w' O')
  (hρ : ∀k' e' L,ρ' k' e'=some L -> ρ k' e'=some L\/(k'=k/\e'=e))
  (he:∀e0 o0,h.get k=some (e0,o0)->e0<=e)
  (hown:∀b,O' b->B0<=b/\b<w'.heap.size)
  (hoth:∀k' e' o' L,k' ≠ k->h.get k'=some (e',o')->o' ≠ .dead -> ρ k' e'=some L->w'.heap[L.b]?=w.heap[L.b]?/\(O L.b->O' L.b))
  (hnew:V7 num Fb B0 ρ' w' O' k e o)
  (hinj:o.live=true->∀k' e' o' L L',k' ≠ k->h.get k'=some (e',o')->o'.live=true -> ρ k' e'=some L' -> ρ' k e=some L->L.b≠L'.b) :
  HpR num Fb B0 ρ' w' O' (h.put k e o) where
 blk:=by
  intro k' e' cs esz ag ti fz hg
  rw[aD]at hg
  by_cases hk:k=k'
  ·subst hk
   simp only[if_true,Option.some.injEq,Prod.mk.injEq]at hg
   obtain⟨rfl,rfl⟩:=hg
   exact hnew
  ·simp only[hk,if_false]at hg
   obtain⟨L,c,T,h1,h2,h3,h4,h5,h6,h7,h8,h9,h10⟩:=H.blk _ _ _ _ _ _ _ hg
   obtain⟨a1,a2⟩:=hoth k' e' _ L (fun e=>hk e.symm) hg (by simp) h1
   refine⟨L,c,T,ev.rho _ _ _ h1,h2,h3,a1.trans h4,h5,h6,?_,h8,fun hz=>a2 (h9 hz),fun hz hO=>h10 hz (ev.own _ ?_ hO)⟩
   ·intro i x hx
    obtain⟨y,hy,hr⟩:=h7 i x hx
    exact⟨y,hy,hr.evo ev⟩
   ·by_cases hlt:L.b<w.heap.size
    ·exact hlt
    ·simp[Array.getElem?_eq_none (Nat.le_of_not_lt hlt)]at h4
 mpo:=by
  intro k' e' es bs ck hg
  rw[aD]at hg
  by_cases hk:k=k'
  ·subst hk
   simp only[if_true,Option.some.injEq,Prod.mk.injEq]at hg
   obtain⟨rfl,rfl⟩:=hg
   exact hnew
  ·simp only[hk,if_false]at hg
   obtain⟨L,c,T,h1,h2,h3,h4,h5,h6⟩:=H.mpo _ _ _ _ _ hg
   obtain⟨a1,a2⟩:=hoth k' e' _ L (fun e=>hk e.symm) hg (by simp) h1
   refine⟨L,c,T,ev.rho _ _ _ h1,a1.trans h2,h3,?_,h5,a2 h6⟩
   intro i x y hx hy
   obtain⟨b1,b2,b3⟩:=h4 i x y hx hy
   exact⟨b1.evo ev,b2.evo ev,b3⟩
 lpo:=by
  intro k' e' st b env ps ca cb hg
  rw[aD]at hg
  by_cases hk:k=k'
  ·subst hk
   simp only[if_true,Option.some.injEq,Prod.mk.injEq]at hg
   obtain⟨rfl,rfl⟩:=hg
   exact hnew
  ·simp only[hk,if_false]at hg
   obtain⟨L,r,h1,h2,h3,h4,h5,h6,h7,h8⟩:=H.lpo _ _ _ _ _ _ _ _ hg
   obtain⟨a1,a2⟩:=hoth k' e' _ L (fun e=>hk e.symm) hg (by simp) h1
   exact⟨L,r,ev.rho _ _ _ h1,a1.trans h2,h3,h4,h5,fun i x y hx hy=>(h6 i x y hx hy).evo ev,h7,a2 h8⟩
 ito:=by
  intro k' e' mk me since seen last hg
  rw[aD]at hg
  by_cases hk:k=k'
  ·subst hk
   simp only[if_true,Option.some.injEq,Prod.mk.injEq]at hg
   obtain⟨rfl,rfl⟩:=hg
   exact hnew
  ·simp only[hk,if_false]at hg
   obtain⟨L,Lm,h1,h2,h3,h4,h5,h6⟩:=H.ito _ _ _ _ _ _ _ hg
   obtain⟨a1,a2⟩:=hoth k' e' _ L (fun e=>hk e.symm) hg (by simp) h1
   exact⟨L,Lm,ev.rho _ _ _ h1,ev.rho _ _ _ h2,a1.trans h3,h4,h5,a2 h6⟩
 inj:=by
  intro k1 k2 e1 e2 o1 o2 L1 L2 g1 g2 l1 l2 r1 r2 hb
  rw[aD]at g1 g2
  by_cases hk1:k=k1
  ·by_cases hk2:k=k2
   ·exact hk1.symm.trans hk2
   ·simp only[hk1,if_true,Option.some.injEq,Prod.mk.injEq]at g1
    simp only[hk2,if_false]at g2
    obtain⟨rfl,rfl⟩:=g1
    have r2':=(hρ _ _ _ r2).resolve_right (fun a=>hk2 a.1.symm)
    exact absurd hb (hinj l1 k2 e2 o2 L1 L2 (fun a=>hk2 a.symm) g2 l2 r2' (by rw[hk1];exact r1))
  ·simp only[hk1,if_false]at g1
   have r1':=(hρ _ _ _ r1).resolve_right (fun a=>hk1 a.1.symm)
   by_cases hk2:k=k2
   ·simp only[hk2,if_true,Option.some.injEq,Prod.mk.injEq]at g2
    obtain⟨rfl,rfl⟩:=g2
    exact absurd hb.symm (hinj l2 k1 e1 o1 L2 L1 (fun a=>hk1 a.symm) g1 l1 r1' (by rw[hk2];exact r2))
   ·simp only[hk2,if_false]at g2
    exact H.inj k1 k2 e1 e2 o1 o2 L1 L2 g1 g2 l1 l2 r1' ((hρ _ _ _ r2).resolve_right (fun a=>hk2 a.1.symm)) hb
 ep:=by
  intro k' e' L hL
  rw[aD]
  rcases hρ _ _ _ hL with h1|⟨rfl,rfl⟩
  ·obtain⟨e'',o'',g,hle⟩:=H.ep _ _ _ h1
   by_cases hk:k=k'
   ·subst hk
    exact⟨e,o,by simp,Nat.le_trans hle (he _ _ g)⟩
   ·exact⟨e'',o'',by simp[hk,g],hle⟩
  ·exact⟨e',o,by simp,Nat.le_refl _⟩
 own:=hown
 fbl:=H.fbl
 le:=Nat.le_trans H.le ev.size
theorem HpR.same(H:HpR num Fb B0 ρ w O h)(ev:Evo ρ w O ρ w' O)(hh:∀b,O b->w'.heap[b]?=w.heap[b]?):HpR num Fb B0 ρ w' O h where
 blk:=by
  intro k' e' cs esz ag ti fz hg
  obtain⟨L,c,T,h1,h2,h3,h4,h5,h6,h7,h8,h9,h10⟩:=H.blk _ _ _ _ _ _ _ hg
  have hb:L.b<w.heap.size:=by
   by_cases hlt:L.b<w.heap.size
   ·exact hlt
   ·simp[Array.getElem?_eq_none (Nat.le_of_not_lt hlt)]at h4
  refine⟨L,c,T,h1,h2,h3,?_,h5,h6,?_,h8,h9,h10⟩
  ·by_cases hO:O L.b
   ·exact(hh _ hO).trans h4
   ·exact(ev.keep _ hb hO).trans h4
  ·intro i x hx
   obtain⟨y,hy,hr⟩:=h7 i x hx
   exact⟨y,hy,hr.evo ev⟩
 mpo:=by
  intro k' e' es bs ck hg
  obtain⟨L,c,T,h1,h2,h3,h4,h5,h6⟩:=H.mpo _ _ _ _ _ hg
  refine⟨L,c,T,h1,(hh _ h6).trans h2,h3,?_,h5,h6⟩
  intro i x y hx hy
  obtain⟨b1,b2,b3⟩:=h4 i x y hx hy
  exact⟨b1.evo ev,b2.evo ev,b3⟩
 lpo:=by
  intro k' e' st b env ps ca cb hg
  obtain⟨L,r,h1,h2,h3,h4,h5,h6,h7,h8⟩:=H.lpo _ _ _ _ _ _ _ _ hg
  exact⟨L,r,h1,(hh _ h8).trans h2,h3,h4,h5,fun i x y hx hy=>(h6 i x y hx hy).evo ev,h7,h8⟩
 ito:=by
  intro k' e' mk me since seen last hg
  obtain⟨L,Lm,h1,h2,h3,h4,h5,h6⟩:=H.ito _ _ _ _ _ _ _ hg
  exact⟨L,Lm,h1,h2,(hh _ h6).trans h3,h4,h5,h6⟩
 inj:=H.inj
 ep:=H.ep
 own:=fun b hO=>⟨(H.own b hO).1,Nat.lt_of_lt_of_le (H.own b hO).2 ev.size⟩
 fbl:=H.fbl
 le:=Nat.le_trans H.le ev.size
def Rho.set(ρ : Rho)(k e:Nat)(L:Loc):Rho:=fun k' e'=>if k'=k/\e'=e then some L else ρ k' e'
theorem Rho.set_same(ρ : Rho)(k e:Nat)(L:Loc) : ρ.set k e L k e=some L:=by simp[Rho.set]
theorem kX(H:HpR num Fb B0 ρ w O h)(k:Nat) : ρ k (h.next k)=none:=by
 cases hr : ρ k (h.next k) with
 |none=>rfl
 |some L=>
  obtain⟨e',o,g,hle⟩:=H.ep _ _ _ hr
  simp[Hp.next,g]at hle
  omega
theorem oT(h:Hp)(k:Nat):∀e0 o0,h.get k=some (e0,o0)->e0<=h.next k:=by
 intro e0 o0 g;simp[Hp.next,g]
theorem Rho.set_keeps{k e:Nat}{L:Loc}(hf : ρ k e=none):∀k' e' L',ρ k' e'=some L' -> ρ.set k e L k' e'=some L':=by
 intro k' e' L' hL
 unfold Rho.set
 split
 ·rename_i hc;obtain⟨rfl,rfl⟩:=hc;simp[hf]at hL
 ·exact hL
structure jV(w w':World)(o:Obj):Prop where
 os:w'.os=w.os
 tape:w'.tape=w.tape
 output:w'.output=w.output
 heap:w'.heap=w.heap.push o
theorem jV.old{o:Obj}(hp:jV w w' o){b:Nat}(hb:b<w.heap.size):w'.heap[b]?=w.heap[b]?:=by
 rw[hp.heap,Array.getElem?_push,if_neg (by omega)]
theorem jV.new{o:Obj}(hp:jV w w' o):w'.heap[w.heap.size]?=some o:=by
 rw[hp.heap];simp
theorem jV.size{o:Obj}(hp:jV w w' o):w'.heap.size=w.heap.size+1:=by
 rw[hp.heap];simp
theorem HpR.loc_lt{k e:Nat}{o:Ob}{L:Loc}(H:HpR num Fb B0 ρ w O h)(hg:h.get k=some (e,o))(hd:o ≠ .dead)(hL : ρ k e=some L):L.b<w.heap.size:=by
 have key:∀x:Obj,w.heap[L.b]?=some x->L.b<w.heap.size:=by
  intro x hx
  by_cases hlt:L.b<w.heap.size
  ·exact hlt
  ·simp[Array.getElem?_eq_none (Nat.le_of_not_lt hlt)]at hx
 cases o with
 |dead=>exact absurd rfl hd
 |blk=>
  obtain⟨L',c',T',h1,_,_,h4,_⟩:=H.blk _ _ _ _ _ _ _ hg
  obtain rfl:L'=L:=by rw[h1]at hL;exact Option.some.inj hL
  exact key _ h4
 |mpo=>
  obtain⟨L',c',T',h1,h4,_⟩:=H.mpo _ _ _ _ _ hg
  obtain rfl:L'=L:=by rw[h1]at hL;exact Option.some.inj hL
  exact key _ h4
 |itr=>
  obtain⟨L',_,h1,_,h4,_⟩:=H.ito _ _ _ _ _ _ _ hg
  obtain rfl:L'=L:=by rw[h1]at hL;exact Option.some.inj hL
  exact key _ h4
 |lp=>
  obtain⟨L',r',h1,h4,_⟩:=H.lpo _ _ _ _ _ _ _ _ hg
  obtain rfl:L'=L:=by rw[h1]at hL;exact Option.some.inj hL
  exact key _ h4
theorem HpR.new{k:Nat}{cs:List AV}{esz:Nat}{ag ti:Bool}{c:Array Value}{T:TypeId}(room:Nat)(H:HpR num Fb B0 ρ w O h)(hp:jV w w' (.cells c T (0,0)))
  (hroom:room<=c.size) (hlen:cs.length<=room) (hc:∀(i:Nat)(x:AV),cs[i]?=some x->∃y,c[i]?=some y/\Rv num ρ w (fun b=>Fb b\/O b) x y) :
  Evo ρ w O (ρ.set k (h.next k) ⟨w.heap.size,0,room,ti,esz⟩) w' (fun b=>O b\/b=w.heap.size) /\
  HpR num Fb B0 (ρ.set k (h.next k) ⟨w.heap.size,0,room,ti,esz⟩) w' (fun b=>O b\/b=w.heap.size) (h.put k (h.next k) (.blk cs esz ag ti false)):=by
 have hf:=kX H k
 have ev:Evo ρ w O (ρ.set k (h.next k) ⟨w.heap.size,0,room,ti,esz⟩) w' (fun b=>O b\/b=w.heap.size):=
  {os:=hp.os,tape:=hp.tape,output:=hp.output,size:=by rw[hp.size];omega,
   keep:=fun b hb _=>hp.old hb,own:=fun b hb hO=>hO.elim id (fun e=>by omega),rho:=Rho.set_keeps hf}
 refine⟨ev,H.put ev ?_ (oT h k) ?_ ?_ ?_ ?_⟩
 ·intro k' e' L hL
  unfold Rho.set at hL
  split at hL
  ·rename_i hc;exact .inr hc
  ·exact .inl hL
 ·intro b hO
  rw[hp.size]
  rcases hO with hO|rfl
  ·exact⟨(H.own b hO).1,Nat.lt_of_lt_of_le (H.own b hO).2 (by omega)⟩
  ·exact⟨H.le,by omega⟩
 ·intro k' e' o' L hk hg hd hL
  exact⟨hp.old (H.loc_lt hg hd hL),.inl⟩
 ·refine⟨_,c,T,Rho.set_same _ _ _ _,rfl,rfl,hp.new,by simpa using hroom,hlen,?_,H.le,fun _ => .inr rfl,fun h=>by cases h⟩
  intro i x hx
  obtain⟨y,hy,hr⟩:=hc i x hx
  exact⟨y,by simpa using hy,hr.evo ev⟩
 ·intro _ k' e' o' L L' hk hg hl hL' hL hb
  rw[Rho.set_same]at hL;cases hL
  have:=H.loc_lt hg (by intro e;subst e;cases hl) hL'
  simp at hb
  omega
structure fT(w w':World)(b:Nat)(o:Obj):Prop where
 os:w'.os=w.os
 tape:w'.tape=w.tape
 output:w'.output=w.output
 size:w'.heap.size=w.heap.size
 here:w'.heap[b]?=some o
 other:∀k,k≠b->w'.heap[k]?=w.heap[k]?
theorem fT.evo{o:Obj}{b:Nat}(ht:fT w w' b o)(hO:O b):Evo ρ w O ρ w' O where
 os:=ht.os
 tape:=ht.tape
 output:=ht.output
 size:=by rw[ht.size];exact Nat.le_refl _
 keep:=fun k _ hk=>ht.other k (fun e=>hk (e ▸ hO))
 own:=fun _ _ h=>h
 rho:=fun _ _ _ h=>h
theorem iP(H:HpR num Fb B0 ρ w O h){k k' e e':Nat}{o o':Ob}{L L':Loc}(hg:h.get k=some (e,o))(hl:o.live=true)(hL : ρ k e=some L)
  (hk:k' ≠ k) (hg':h.get k'=some (e',o')) (hd:o' ≠ .dead) (hL' : ρ k' e'=some L'):L'.b≠L.b:=by
 intro hb
 by_cases hl':o'.live=true
 ·exact hk (H.inj _ _ _ _ _ _ _ _ hg' hg hl' hl hL' hL hb)
 ·cases o' with
  |dead=>exact hd rfl
  |mpo=>simp[Ob.live]at hl'
  |lp=>simp[Ob.live]at hl'
  |itr=>simp[Ob.live]at hl'
  |blk cs esz ag ti fz=>
   cases fz with
   |false=>simp[Ob.live]at hl'
   |true=>
    obtain⟨L1,c1,T1,h1,_,_,_,_,_,_,_,_,h10⟩:=H.blk _ _ _ _ _ _ _ hg'
    rw[h1]at hL';cases hL'
    have:O L.b:=by
     cases o with
     |dead=>simp[Ob.live]at hl
     |mpo=>
      obtain⟨L2,c2,T2,r1,_,_,_,_,r6⟩:=H.mpo _ _ _ _ _ hg
      rw[r1]at hL;cases hL;exact r6
     |itr=>
      obtain⟨L2,c2,r1,_,_,_,_,r6⟩:=H.ito _ _ _ _ _ _ _ hg
      rw[r1]at hL;cases hL;exact r6
     |lp=>
      obtain⟨L2,c2,r1,_,_,_,_,_,_,r6⟩:=H.lpo _ _ _ _ _ _ _ _ hg
      rw[r1]at hL;cases hL;exact r6
     |blk cs' esz' ag' ti' fz'=>
      cases fz' with
      |true=>simp[Ob.live]at hl
      |false=>
       obtain⟨L2,c2,T2,r1,_,_,_,_,_,_,_,r9,_⟩:=H.blk _ _ _ _ _ _ _ hg
       rw[r1]at hL;cases hL;exact r9 rfl
    exact h10 rfl (hb ▸ this)
theorem HpR.write{k e:Nat}{cs cs':List AV}{esz:Nat}{ag ti:Bool}{L:Loc}{c':Array Value}{T:TypeId}(H:HpR num Fb B0 ρ w O h)
  (hg:h.get k=some (e,.blk cs esz ag ti false)) (hL : ρ k e=some L) (ht:fT w w' L.b (.cells c' T (0,0)))
  (hsz:L.base+L.room<=c'.size) (hlen:cs'.length<=L.room)
  (hc:∀(i:Nat)(x:AV),cs'[i]?=some x->∃y,c'[L.base+i]?=some y/\Rv num ρ w (fun b=>Fb b\/O b) x y) :
  Evo ρ w O ρ w' O/\HpR num Fb B0 ρ w' O (h.put k e (.blk cs' esz ag ti false)):=by
 obtain⟨L0,c,T0,h1,h2,h3,h4,h5,h6,h7,h8,h9,h10⟩:=H.blk _ _ _ _ _ _ _ hg
 rw[h1]at hL;cases hL
 have ev:Evo ρ w O ρ w' O:=ht.evo (h9 rfl)
 refine⟨ev,H.put ev (fun _ _ _ h => .inl h) (fun e0 o0 g=>by rw[hg]at g;cases g;exact Nat.le_refl _) ?_ ?_ ?_ ?_⟩
 ·intro b hO;rw[ht.size];exact H.own b hO
 ·intro k' e' o' L' hk hg' hd hL'
  exact⟨ht.other _ (iP H hg rfl h1 hk hg' hd hL'),id⟩
 ·refine⟨L,c',T,h1,h2,h3,ht.here,hsz,hlen,?_,h8,h9,h10⟩
  intro i x hx
  obtain⟨y,hy,hr⟩:=hc i x hx
  exact⟨y,hy,hr.evo ev⟩
 ·intro _ k' e' o' L1 L2 hk hg' hl hL' hL1 hb
  rw[h1]at hL1;cases hL1
  exact iP H hg rfl h1 hk hg' (by intro e;subst e;cases hl) hL' hb.symm
theorem HpR.kill{k e:Nat}{o:Ob}(H:HpR num Fb B0 ρ w O h)(hg:h.get k=some (e,o)):HpR num Fb B0 ρ w O (h.put k e .dead):=
 H.put (Evo.refl ρ w O) (fun _ _ _ h => .inl h) (fun e0 o0 g=>by rw[hg]at g;cases g;exact Nat.le_refl _) H.own (fun _ _ _ _ _ _ _ _=>⟨rfl,id⟩) trivial (fun h=>by cases h)
theorem HpR.freeze{k e:Nat}{cs:List AV}{esz:Nat}{ag ti:Bool}{L:Loc}(H:HpR num Fb B0 ρ w O h)
  (hg:h.get k=some (e,.blk cs esz ag ti false)) (hL : ρ k e=some L) :
  Evo ρ w O ρ w (fun b=>O b/\b≠L.b)/\HpR num Fb B0 ρ w (fun b=>O b/\b≠L.b) (h.put k e (.blk cs esz ag ti true)):=by
 obtain⟨L0,c,T0,h1,h2,h3,h4,h5,h6,h7,h8,h9,h10⟩:=H.blk _ _ _ _ _ _ _ hg
 rw[h1]at hL;cases hL
 have ev:Evo ρ w O ρ w (fun b=>O b/\b≠L.b):=⟨rfl,rfl,rfl,Nat.le_refl _,fun _ _ _=>rfl,fun _ _ h=>h.1,fun _ _ _ h=>h⟩
 refine⟨ev,H.put ev (fun _ _ _ h => .inl h) (fun e0 o0 g=>by rw[hg]at g;cases g;exact Nat.le_refl _) (fun b hO=>H.own b hO.1) ?_ ?_ (fun h=>by cases h)⟩
 ·intro k' e' o' L' hk hg' hd hL'
  exact⟨rfl,fun hO=>⟨hO,iP H hg rfl h1 hk hg' hd hL'⟩⟩
 ·refine⟨L,c,T0,h1,h2,h3,h4,h5,h6,?_,h8,(fun h=>by cases h),fun _ h=>h.2 rfl⟩
  intro i x hx
  obtain⟨y,hy,hr⟩:=h7 i x hx
  exact⟨y,hy,hr.evo ev⟩
theorem HpR.move{k k0 e off:Nat}{cs cs':List AV}{esz:Nat}{ag ag' ti:Bool}{L:Loc}{c':Array Value}{T:TypeId}(H:HpR num Fb B0 ρ w O h)
  (hg:h.get k=some (e,.blk cs esz ag ti false)) (hL : ρ k e=some L) (ht:fT w w' L.b (.cells c' T (0,0)))
  (hsz:L.base+L.room<=c'.size) (hoff:off<=L.room) (hlen:cs'.length<=L.room-off)
  (hc:∀(i:Nat)(x:AV),cs'[i]?=some x->∃y,c'[L.base+off+i]?=some y/\Rv num ρ w (fun b=>Fb b\/O b) x y) (h':Hp)
  (hh:h'=if k=k0 then h else h.put k e .dead) (e0:Nat) (he0:e0=h.next k0) :
  Evo ρ w O (ρ.set k0 e0 ⟨L.b,L.base+off,L.room-off,false,esz⟩) w' O /\
  HpR num Fb B0 (ρ.set k0 e0 ⟨L.b,L.base+off,L.room-off,false,esz⟩) w' O (h'.put k0 e0 (.blk cs' esz ag' false false)):=by
 obtain⟨L0,c,T0,h1,h2,h3,h4,h5,h6,h7,h8,h9,h10⟩:=H.blk _ _ _ _ _ _ _ hg
 rw[h1]at hL;cases hL
 subst he0
 have hf:=kX H k0
 have H':HpR num Fb B0 ρ w O h':=by
  rw[hh];split
  ·exact H
  ·exact H.kill hg
 have hget:∀k',k' ≠ k0->∀e' o',h'.get k'=some (e',o')->o' ≠ .dead->k' ≠ k/\h.get k'=some (e',o'):=by
  intro k' hk0 e' o' hg' hd
  rw[hh]at hg'
  split at hg'
  ·rename_i hkk;exact⟨fun e=>hk0 (e.trans hkk),hg'⟩
  ·rw[aD]at hg'
   by_cases hk:k=k'
   ·simp[hk]at hg';exact absurd hg'.2.symm hd
   ·simp[hk]at hg';exact⟨fun e=>hk e.symm,hg'⟩
 have hnx:∀e1 o1,h'.get k0=some (e1,o1)->e1<=h.next k0:=by
  intro e1 o1 hg1
  rw[hh]at hg1
  split at hg1
  ·exact oT h k0 _ _ hg1
  ·rename_i hkk
   rw[aD,if_neg hkk]at hg1
   exact oT h k0 _ _ hg1
 have ev:Evo ρ w O (ρ.set k0 (h.next k0) ⟨L.b,L.base+off,L.room-off,false,esz⟩) w' O:=
  let ev0:=ht.evo (ρ := ρ) (h9 rfl)
  {ev0 with rho:=Rho.set_keeps hf}
 refine⟨ev,H'.put ev ?_ hnx ?_ ?_ ?_ ?_⟩
 ·intro k' e' L' hL'
  unfold Rho.set at hL'
  split at hL'
  ·rename_i hc;exact .inr hc
  ·exact .inl hL'
 ·intro b hO;rw[ht.size];exact H.own b hO
 ·intro k' e' o' L' hk hg' hd hL'
  obtain⟨a1,a2⟩:=hget k' hk e' o' hg' hd
  exact⟨ht.other _ (iP H hg rfl h1 a1 a2 hd hL'),id⟩
 ·refine⟨_,c',T,Rho.set_same _ _ _ _,rfl,rfl,ht.here,by simp;omega,hlen,?_,h8,fun _=>h9 rfl,fun h=>by cases h⟩
  intro i x hx
  obtain⟨y,hy,hr⟩:=hc i x hx
  exact⟨y,hy,hr.evo ev⟩
 ·intro _ k' e' o' L1 L2 hk hg' hl hL' hL1 hb
  rw[Rho.set_same]at hL1;cases hL1
  obtain⟨a1,a2⟩:=hget k' hk e' o' hg' (by intro e;subst e;cases hl)
  exact iP H hg rfl h1 a1 a2 (by intro e;subst e;cases hl) hL' hb.symm
theorem HpR.newI{k mk me ck:Nat}{Lm:Loc}(H:HpR num Fb B0 ρ w O h)(hm : ρ mk me=some Lm)(hp:jV w w' (.mapIter (some Lm.b) ck #[] ck)) :
  Evo ρ w O (ρ.set k (h.next k) ⟨w.heap.size,0,0,false,0⟩) w' (fun b=>O b\/b=w.heap.size) /\
  HpR num Fb B0 (ρ.set k (h.next k) ⟨w.heap.size,0,0,false,0⟩) w' (fun b=>O b\/b=w.heap.size) (h.put k (h.next k) (.itr mk me ck [] ck)):=by
 have hf:=kX H k
 have ev:Evo ρ w O (ρ.set k (h.next k) ⟨w.heap.size,0,0,false,0⟩) w' (fun b=>O b\/b=w.heap.size):=
  {os:=hp.os,tape:=hp.tape,output:=hp.output,size:=by rw[hp.size];omega,
   keep:=fun b hb _=>hp.old hb,own:=fun b hb hO=>hO.elim id (fun e=>by omega),rho:=Rho.set_keeps hf}
 refine⟨ev,H.put ev ?_ (oT h k) ?_ ?_ ?_ ?_⟩
 ·intro k' e' L hL
  unfold Rho.set at hL
  split at hL
  ·rename_i hc;exact .inr hc
  ·exact .inl hL
 ·intro b hO
  rw[hp.size]
  rcases hO with hO|rfl
  ·exact⟨(H.own b hO).1,Nat.lt_of_lt_of_le (H.own b hO).2 (by omega)⟩
  ·exact⟨H.le,by omega⟩
 ·intro k' e' o' L hk hg hd hL
  exact⟨hp.old (H.loc_lt hg hd hL),.inl⟩
 ·exact⟨_,Lm,Rho.set_same _ _ _ _,ev.rho _ _ _ hm,hp.new,rfl,H.le,.inr rfl⟩
 ·intro _ k' e' o' L L' hk hg hl hL' hL hb
  rw[Rho.set_same]at hL;cases hL
  have:=H.loc_lt hg (by intro e;subst e;cases hl) hL'
  simp at hb
  omega
theorem HpR.turnI{k e mk me since last last':Nat}{seen seen':List Nat}{L Lm:Loc}(H:HpR num Fb B0 ρ w O h)
  (hg:h.get k=some (e,.itr mk me since seen last)) (hL : ρ k e=some L) (hm : ρ mk me=some Lm) (ht:fT w w' L.b (.mapIter (some Lm.b) since seen'.toArray last')) :
  Evo ρ w O ρ w' O/\HpR num Fb B0 ρ w' O (h.put k e (.itr mk me since seen' last')):=by
 obtain⟨L0,Lm0,q1,q2,q3,q4,q5,q6⟩:=H.ito _ _ _ _ _ _ _ hg
 rw[q1]at hL;cases hL
 have ev:Evo ρ w O ρ w' O:=ht.evo q6
 refine⟨ev,H.put ev (fun _ _ _ h => .inl h) (fun e0 o0 g=>by rw[hg]at g;cases g;exact Nat.le_refl _) ?_ ?_ ?_ ?_⟩
 ·intro b hO;rw[ht.size];exact H.own b hO
 ·intro k' e' o' L' hk hg' hd hL'
  exact⟨ht.other _ (iP H hg rfl q1 hk hg' hd hL'),id⟩
 ·exact⟨L,Lm,q1,hm,ht.here,q4,q5,q6⟩
 ·intro _ k' e' o' L1 L2 hk hg' hl hL' hL1 hb
  rw[q1]at hL1;cases hL1
  exact iP H hg rfl q1 hk hg' (by intro e;subst e;cases hl) hL' hb.symm
theorem HpR.newLp{k bb:Nat}{env:List AV}{ps:List Nat}{ca cb:C}{r:Loop}(H:HpR num Fb B0 ρ w O h)(hp:jV w w' (.loop r))(hlk:num.lk ps ca cb r)(hst:K3 0 r)(hlen:env.length=r.tmps.size)
  (hc:∀(i:Nat)(x:AV)(y:Value),env[i]?=some x->r.tmps[i]?=some y->Rv num ρ w (fun b=>Fb b\/O b) x y) :
  Evo ρ w O (ρ.set k (h.next k) ⟨w.heap.size,0,0,false,0⟩) w' (fun b=>O b\/b=w.heap.size) /\
  HpR num Fb B0 (ρ.set k (h.next k) ⟨w.heap.size,0,0,false,0⟩) w' (fun b=>O b\/b=w.heap.size) (h.put k (h.next k) (.lp 0 bb env ps ca cb)):=by
 have hf:=kX H k
 have ev:Evo ρ w O (ρ.set k (h.next k) ⟨w.heap.size,0,0,false,0⟩) w' (fun b=>O b\/b=w.heap.size):=
  {os:=hp.os,tape:=hp.tape,output:=hp.output,size:=by rw[hp.size];omega,
   keep:=fun b hb _=>hp.old hb,own:=fun b hb hO=>hO.elim id (fun e=>by omega),rho:=Rho.set_keeps hf}
 refine⟨ev,H.put ev ?_ (oT h k) ?_ ?_ ?_ ?_⟩
 ·intro k' e' L hL
  unfold Rho.set at hL
  split at hL
  ·rename_i hc;exact .inr hc
  ·exact .inl hL
 ·intro b hO
  rw[hp.size]
  rcases hO with hO|rfl
  ·exact⟨(H.own b hO).1,Nat.lt_of_lt_of_le (H.own b hO).2 (by omega)⟩
  ·exact⟨H.le,by omega⟩
 ·intro k' e' o' L hk hg hd hL
  exact⟨hp.old (H.loc_lt hg hd hL),.inl⟩
 ·exact⟨_,r,Rho.set_same _ _ _ _,hp.new,hlk,hst,hlen,fun i x y hx hy=>(hc i x y hx hy).evo ev,H.le,.inr rfl⟩
 ·intro _ k' e' o' L L' hk hg hl hL' hL hb
  rw[Rho.set_same]at hL;cases hL
  have:=H.loc_lt hg (by intro e;subst e;cases hl) hL'
  simp at hb
  omega
theorem HpR.turnLp{k e st st' bb bb':Nat}{env:List AV}{ps:List Nat}{ca cb:C}{L:Loc}{r r':Loop}(H:HpR num Fb B0 ρ w O h)
  (hg:h.get k=some (e,.lp st bb env ps ca cb)) (hL : ρ k e=some L) (hr:w.heap[L.b]?=some (.loop r)) (ht:fT w w' L.b (.loop r'))
  (h1:r'.tmps=r.tmps) (h2:num.lk ps ca cb r->num.lk ps ca cb r') (h3:K3 st' r') :
  Evo ρ w O ρ w' O/\HpR num Fb B0 ρ w' O (h.put k e (.lp st' bb' env ps ca cb)):=by
 obtain⟨L0,r0,q1,q2,q3,q4,q5,q6,q7,q8⟩:=H.lpo _ _ _ _ _ _ _ _ hg
 rw[q1]at hL;cases hL
 rw[q2]at hr;cases hr
 have ev:Evo ρ w O ρ w' O:=ht.evo q8
 refine⟨ev,H.put ev (fun _ _ _ h => .inl h) (fun e0 o0 g=>by rw[hg]at g;cases g;exact Nat.le_refl _) ?_ ?_ ?_ ?_⟩
 ·intro b hO;rw[ht.size];exact H.own b hO
 ·intro k' e' o' L' hk hg' hd hL'
  exact⟨ht.other _ (iP H hg rfl q1 hk hg' hd hL'),id⟩
 ·exact⟨L,r',q1,ht.here,h2 q3,h3,by rw[h1];exact q5,fun i x y hx hy=>(q6 i x y hx (by rw[<-h1];exact hy)).evo ev,q7,q8⟩
 ·intro _ k' e' o' L1 L2 hk hg' hl hL' hL1 hb
  rw[q1]at hL1;cases hL1
  exact iP H hg rfl q1 hk hg' (by intro e;subst e;cases hl) hL' hb.symm
theorem HpR.killLp{k e st bb:Nat}{env:List AV}{ps:List Nat}{ca cb:C}{L:Loc}{o:Obj}(H:HpR num Fb B0 ρ w O h)
  (hg:h.get k=some (e,.lp st bb env ps ca cb)) (hL : ρ k e=some L) (ht:fT w w' L.b o) :
  Evo ρ w O ρ w' O/\HpR num Fb B0 ρ w' O (h.put k e .dead):=by
 obtain⟨L0,r0,q1,q2,q3,q4,q5,q6,q7,q8⟩:=H.lpo _ _ _ _ _ _ _ _ hg
 rw[q1]at hL;cases hL
 have ev:Evo ρ w O ρ w' O:=ht.evo q8
 refine⟨ev,H.put ev (fun _ _ _ h => .inl h) (fun e0 o0 g=>by rw[hg]at g;cases g;exact Nat.le_refl _) ?_ ?_ trivial (fun h=>by cases h)⟩
 ·intro b hO;rw[ht.size];exact H.own b hO
 ·intro k' e' o' L' hk hg' hd hL'
  exact⟨ht.other _ (iP H hg rfl q1 hk hg' hd hL'),id⟩
end
end Go.Tev
end
section
namespace Go.Tev
open Go.RowKit
inductive aJ{α β : Type}(R : α -> β -> Prop):List α -> List β -> Prop
 |nil:aJ R [] []
 |cons {a : α} {b : β} {l:List α} {m:List β}:R a b->aJ R l m->aJ R (a::l) (b::m)
theorem aJ.length{α β : Type}{R : α -> β -> Prop}{l:List α}{m:List β}(h:aJ R l m):l.length=m.length:=by
 induction h with
 |nil=>rfl
 |cons _ _ ih=>simp[ih]
theorem aJ.get{α β : Type}{R : α -> β -> Prop}{l:List α}{m:List β}(h:aJ R l m):∀(i:Nat)(x : α)(y : β),l[i]?=some x->m[i]?=some y->R x y:=by
 induction h with
 |nil=>intro i x y hx;simp at hx
 |cons hr _ ih=>
  intro i x y hx hy
  cases i with
  |zero=>simp at hx hy;exact hx ▸ hy ▸ hr
  |succ i=>exact ih i x y (by simpa using hx) (by simpa using hy)
def fitV1:AV->Value->Bool
 |.bool a,.bool b=>a==b
 |.int k n,.int k' n'=>k==k'&&n==n'
 |.str s,.string t=>s==t.data.toList
 |.nilp,.pointer none=>true
 |.nilm,.map none=>true
 |.nilf,.nilFunc=>true
 |.nili,.nilIface=>true
 |.sl true [] _,.slice none 0 0=>true
 |_,_=>false
def fitL:List AV->List Value->Bool
 |[],[]=>true
 |x::r,y::s=>fitV1 x y&&fitL r s
 |_,_=>false
def fitV:AV->Value->Bool
 |.agg cs,.agg vs=>fitL cs vs.toList
 |.tup cs,.tuple vs=>fitL cs vs.toList
 |v,c=>fitV1 v c
def fitX(num aN:Nat->Nat):X->Operand->Bool
 |.t n,.tmp m=>n==m
 |.c v,.const c=>fitV v c
 |.g n,.global g=>aN n==g
 |.f n,.func f=>num n==f
 |_,_=>false
section
variable{num:Nm}{ρ : Rho}{w:World}{F:Nat->Prop}
theorem fitV1_sound{v:AV}{c:Value}(h:fitV1 v c=true):Rv num ρ w F v c:=by
 unfold fitV1 at h
 split at h
 ·simp at h;subst h;exact .bool _
 ·simp at h;obtain⟨rfl,rfl⟩:=h;exact .int _ _
 ·rename_i s t
  have:t=⟨s.toArray⟩:=by
   cases t;simp at h;subst h;rfl
  subst this;exact .str s
 ·exact .nilp
 ·exact .nilm
 ·exact .nilf
 ·exact .nili
 ·exact .nsl _
 ·cases h
theorem fitL_sound:∀{l:List AV}{m:List Value},fitL l m=true->aJ (Rv num ρ w F) l m
 |[],[],_ => .nil
 |[],_::_,h=>by simp[fitL]at h
 |_::_,[],h=>by simp[fitL]at h
 |_::_,_::_,h=>by
  simp only[fitL,Bool.and_eq_true]at h
  exact .cons (fitV1_sound h.1) (fitL_sound h.2)
theorem Rv.of_all2_agg{cs:List AV}{vs:Array Value}(h:aJ (Rv num ρ w F) cs vs.toList):Rv num ρ w F (.agg cs) (.agg vs):=
 .agg cs vs (by simpa using h.length) (fun i x y hx hy=>h.get i x y hx (by simpa using hy))
theorem Rv.of_all2_tup{cs:List AV}{vs:Array Value}(h:aJ (Rv num ρ w F) cs vs.toList):Rv num ρ w F (.tup cs) (.tuple vs):=
 .tup cs vs (by simpa using h.length) (fun i x y hx hy=>h.get i x y hx (by simpa using hy))
theorem fitV_sound{v:AV}{c:Value}(h:fitV v c=true):Rv num ρ w F v c:=by
 unfold fitV at h
 split at h
 ·exact .of_all2_agg (fitL_sound h)
 ·exact .of_all2_tup (fitL_sound h)
 ·exact fitV1_sound h
end
def EK(P:Program)(t:TypeId):Option Bool:=
 match P.underlying t with
 |some (.struct _)|some (.array _ _)=>some true
 |some _=>some false
 |none=>none
def fitT(P:Program)(t:TypeId)(sz:Nat)(ag:Bool):Bool:=(P.info? t).map (·.size)==some sz&&EK P t==some ag&&(ag||sz==1)
def fitB(P:Program)(t:TypeId)(bytes:Nat):Bool:=(P.info? t).map (·.bytes)==some bytes
def fitZ(P:Program)(t:TypeId)(zero:List AV):Bool:=
 match P.info? t with
 |some i=>match i.zero with|some z=>fitL zero z.cells.toList|none=>false
 |none=>false
def rE(P:Program)(t:TypeId):Bool:=match P.underlying t with|some .string=>true|_=>false
def AC(P:Program)(t:TypeId):Bool:=match P.underlying t with|some (.int _)=>true|_=>false
def xV(P:Program)(t:TypeId):Bool:=match P.underlying t with|some .bool=>true|_=>false
def OF(P:Program)(t:TypeId):Bool:=match P.underlying t with|some (.int .u8)=>true|_=>false
def mP(P:Program)(t:TypeId):Option TypeId:=match P.underlying t with|some (.slice e)=>some e|_=>none
def G7(P:Program)(t:TypeId):Bool:=match P.underlying t with|some (.interface _)=>true|_=>false
theorem iG{P:Program}{t:TypeId}(h:rE P t=true):P.underlying t=some .string:=by
 unfold rE at h;split at h<;>first|assumption|cases h
theorem xU{P:Program}{t:TypeId}(h:AC P t=true):∃k,P.underlying t=some (.int k):=by
 unfold AC at h;split at h<;>first|exact⟨_,by assumption⟩|cases h
theorem uF{P:Program}{t:TypeId}(h:xV P t=true):P.underlying t=some .bool:=by
 unfold xV at h;split at h<;>first|assumption|cases h
theorem wJ{P:Program}{t:TypeId}(h:OF P t=true):P.underlying t=some (.int .u8):=by
 unfold OF at h;split at h<;>first|assumption|cases h
theorem gS{P:Program}{t e:TypeId}(h:mP P t=some e):P.underlying t=some (.slice e):=by
 unfold mP at h;split at h
 ·cases h;assumption
 ·cases h
def BW(P:Program)(t:TypeId)(f:Nat):Option Field:=
 match P.underlying t with
 |some (.struct fs)=>fs[f]?
 |_=>none
def bV(b:Bool)(l:List Operand):Option (List Operand):=if b then some l else none
theorem aO{b:Bool}{l m:List Operand}(h:bV b l=some m):b=true/\m=l:=by
 unfold bV at h
 split at h
 ·cases h;exact⟨by assumption,rfl⟩
 ·cases h
def fitParts(P:Program)(t:TypeId):List (Nat×Operand)->List (Nat×Nat)->Bool
 |[],[]=>true
 |(i,_)::r,(off,sz)::s=>
  (match P.underlying t with
   |some (.struct fs)=>match fs[i]? with|some f=>f.offset==off&&(P.info? f.type).map (·.size)==some sz|none=>false
   |some (.array _ e)=>(P.info? e).map (·.size)==some sz&&off==i*sz
   |_=>false)&&fitParts P t r s
 |_,_=>false
def xT(P:Program)(t:TypeId):Nat->Bool
 |0=>AC P t
 |1=>rE P t
 |2=>xV P t
 |_=>false
def GZ(P:Program)(t:TypeId):Bool:=
 match P.underlying t with
 |some (.struct fs)=>fs.toList.all fun f=>(P.info? f.type).isSome
 |some (.array _ e)=>(P.info? e).isSome
 |_=>false
def jY(P:Program):Nat->List Field->List Nat->Bool
 |_,[],[]=>true
 |i,f::fs,q::qs=>f.offset==i&&f.name != "_" && xT P f.type q&&jY P (i+1) fs qs
 |_,_,_=>false
def vK(P:Program)(t:TypeId)(qs:List Nat):Bool:=
 match P.underlying t with
 |some (.struct fs)=>jY P 0 fs.toList qs
 |_=>false
def pF:Op->Option (Builtin×List Operand×Array TypeId)
 |.call c=>match c.callee with
  |.builtin b=>some (b,c.args.toList,c.argTypes)
  |_=>none
 |_=>none
theorem iT{P:Program}{o:Oper}{b:Builtin}{args:List Operand}{tys:Array TypeId}{ρv:Operand->Value}{w:World}(h:pF o.op=some (b,args,tys)) :
  ∃consts,(execOp ρv o).run P w=(builtin b tys o.type consts (args.map ρv).toArray).run P w:=by
 unfold pF at h
 split at h
 ·rename_i c hc
  split at h
  ·rename_i b' hb
   cases h
   have hm:(List.map ρv c.args.toList).toArray=Array.map ρv c.args:=by rw[<-Array.toList_map]
   have key:∀s,resolve ρv c o.type=pure s->(execOp ρv o).run P w=(invoke s.target s.args).run P w:=by
    intro s hs
    simp only[execOp,hc,hs]
    rfl
   refine⟨c.args.map fun|.const _=>true|_=>false,?_⟩
   rw[hm]
   exact(key _ (by unfold resolve;rw[hb])).trans rfl
  ·cases h
 ·cases h
def fitZV(P:Program)(t:TypeId)(zero:AV):Bool:=
 match P.info? t with
 |some i=>match i.zero with|some z=>fitV zero z|none=>false
 |none=>false
def RE:Op->Option (TypeId×Operand×Operand×Operand)
 |.mapUpdate t m k x=>some (t,m,k,x)
 |.insert t m k x=>some (t,m,k,x)
 |_=>none
def UX(P:Program)(q g:Nat):Bool:=
 match P.funcs[g]? with
 |some fn=>decide (fn.name=(if q=0 then "math/bits.Add64" else "math/bits.Sub64"))&&decide (fn.origin = "")&&fn.body.isNone
 |none=>false
def fitK(P:Program)(num:Nat->Nat)(o:Oper):K->Option (List Operand)
 |.bad=>some []
 |.mov=>match o.op with
  |.move x=>some [x]
  |.assign x=>some [x]
  |_=>none
 |.frz=>match o.op with
  |.move x=>some [x]
  |.assign x=>some [x]
  |_=>none
 |.cvs=>match o.op with
  |.convert s d x=>bV (rE P s&&rE P d) [x]
  |_=>none
 |.pick=>match o.op with|.pick c a b=>some [c,a,b]|_=>none
 |.box=>match o.op with|.box _ x=>some [x]|_=>none
 |.alloc zero ag=>match o.op with|.alloc t=>bV (fitZ P t zero) []|_=>none
 |.build zero parts=>match o.op with
  |.build t ps=>bV (fitZ P t zero&&fitParts P t ps.toList parts&&GZ P t) (ps.toList.map (·.2))
  |_=>none
 |.mkSl esz ag own=>match o.op with
  |.buildSlice t n ps=>match mP P t with
   |some e=>bV (fitT P e esz ag&&ps.toList.map (·.1)==List.range n&&decide (n*esz<=16777216)&&((P.info? e).bind (·.zero)).any (·.cells.size==esz)&&esz != 0) (ps.toList.map (·.2))
   |none=>none
  |_=>none
 |.mkZ esz ag=>match o.op with
  |.buildSlice t n ps=>match mP P t with
   |some e=>bV (fitT P e esz ag&&ps.toList.map (·.1)==List.range n&&decide (n*esz<=16777216)&&((P.info? e).bind (·.zero)).any (·.cells.size==esz)&&esz != 0) (ps.toList.map (·.2))
   |none=>none
  |_=>none
 |.load sz ag=>match o.op with|.load t a=>bV (fitT P t sz ag) [a]|_=>none
 |.store sz ag=>match o.op with|.store t a v=>bV (fitT P t sz ag) [a,v]|_=>none
 |.nilc=>match o.op with|.nilCheck x=>some [x]|_=>none
 |.bin op=>match o.op with|.binOp op' _ x y _=>bV (op==op') [x,y]|_=>none
 |.beq ng=>match o.op with
  |.binOp .eql t x y _=>bV (!ng&&xV P t) [x,y]
  |.binOp .neq t x y _=>bV (ng&&xV P t) [x,y]
  |_=>none
 |.eqn q ng=>match o.op with
  | .binOp op t x y _=>bV (((op == .eql && !ng)||(op == .neq&&ng))&&(match q,P.underlying t,y with
    |0,some (.pointer _),.const (.pointer none)=>true
    |1,some (.slice _),.const (.slice none 0 0)=>true
    |2,some (.map _ _),.const (.map none)=>true
    |3,some (.func _ _ _),.const .nilFunc=>true
    |4,some (.interface _),.const .nilIface=>true
    |_,_,_=>false)) [x]
  |_=>none
 |.eqs ng qs=>match o.op with
  | .binOp op t x y _=>bV (((op == .eql && !ng)||(op == .neq&&ng))&&vK P t qs && !P.stoodInHeld t && !P.eqGuardType P.depth t) [x,y]
  |_=>none
 |.un op=>match o.op with|.unOp op' _ x=>bV (op==op') [x]|_=>none
 |.cvi k=>match o.op with
  |.convert s d x=>bV ((match P.underlying d with|some (.int k')=>k==k'|_=>false)&&AC P s) [x]
  |_=>none
 |.s2b=>match o.op with
  |.convert s d x=>bV (rE P s&&(match mP P d with|some e=>OF P e|none=>false)) [x]
  |_=>none
 |.b2s=>match o.op with
  |.convert s d x=>bV (rE P d&&(match mP P s with|some e=>OF P e|none=>false)) [x]
  |_=>none
 |.fld off sz ag=>match o.op with
  |.field t x f=>match BW P t f with
   |some fd=>bV (fd.offset==off&&fitT P fd.type sz ag) [x]
   |none=>none
  |_=>none
 |.fad off sz ag=>match o.op with
  |.fieldAddr t x f=>match BW P t f with
   |some fd=>bV (fd.offset==off&&fitT P fd.type sz ag&&sz != 0) [x]
   |none=>none
  |_=>none
 |.iad esz ag arr=>match o.op with
  |.indexAddr t x i=>bV (match P.underlying t,arr with
    |some (.slice e),none=>fitT P e esz ag
    |some (.array n e),some m=>n==m&&fitT P e esz ag
    |_,_=>false) [x,i]
  |_=>none
 |.ixs=>match o.op with|.index t x i=>bV (rE P t) [x,i]|_=>none
 |.ixa len esz ag=>match o.op with
  |.index t x i=>bV (match P.underlying t with|some (.array n e)=>n==len&&fitT P e esz ag|_=>false) [x,i]
  |_=>none
 |.slc esz lo hi mx=>match o.op with
  |.slice t x l h m=>match mP P t with
   | some e=>bV ((P.info? e).map (·.size)==some esz&&lo==l.isSome&&hi==h.isSome&&mx==m.isSome&&(!mx||hi)) ([x]++l.toList++h.toList++m.toList)
   |none=>none
  |_=>none
 |.sls lo hi=>match o.op with
  |.slice t x l h none=>bV (rE P t&&lo==l.isSome&&hi==h.isSome) ([x]++l.toList++h.toList)
  |_=>none
 |.sla len esz lo hi=>match o.op with
  |.slice t x l h none=>bV ((match P.underlying t with|some (.array n e)=>n==len&&(P.info? e).map (·.size)==some esz|_=>false)&&lo==l.isSome&&hi==h.isSome) ([x]++l.toList++h.toList)
  |_=>none
 |.mks esz ag bytes zero=>match o.op with
  |.makeSlice t l c=>match mP P t with
   |some e=>bV (fitT P e esz ag&&fitB P e bytes&&fitZ P e zero) [l,c]
   |none=>none
  |_=>none
 |.len q=>match pF o.op with
  |some (.len,[x],argTypes)=>bV (match argTypes[0]? with
    |some t=>(match q,P.underlying t with|0,some .string=>true|1,some (.slice _)=>true|2,some (.map _ _)=>true|_,_=>false)
    |none=>false) [x]
  |_=>none
 |.lenc n=>match pF o.op with
  |some (.len,[x],argTypes)=>bV (match argTypes[0]? with
    |some t=>(match P.underlying t with
     |some (.array m _)=>m==n
     |some (.pointer ar)=>(match P.underlying ar with|some (.array m _)=>m==n|_=>false)
     |_=>false)
    |none=>false) [x]
  |_=>none
 |.cap=>match pF o.op with
  |some (.cap,[x],argTypes)=>bV (match argTypes[0]? with
    |some t=>(mP P t).isSome
    |none=>false) [x]
  |_=>none
 |.app esz ag bytes=>match pF o.op with
  |some (.append,[x,y],argTypes)=>match argTypes[0]?,argTypes[1]? with
   |some t,some u=>match mP P t with
    | some e=>bV (fitT P e esz ag&&fitB P e bytes&&((P.info? e).bind (·.zero)).any (·.cells.size==esz)&&(t==u||rE P u||(mP P u).isSome)) [x,y]
    |none=>none
   |_,_=>none
  |_=>none
 |.apz esz ag bytes zero=>match pF o.op with
  |some (.append,[x,y],argTypes)=>match argTypes[0]?,argTypes[1]? with
   |some t,some u=>match mP P t with
    |some e=>bV (fitT P e esz ag&&fitB P e bytes&&fitZ P e zero&&AC P u) [x,y]
    |none=>none
   |_,_=>none
  |_=>none
 |.cpy esz ag=>match pF o.op with
  |some (.copy,[x,y],argTypes)=>match argTypes[0]? with
   |some t=>match mP P t with
    |some e=>bV (fitT P e esz ag) [x,y]
    |none=>none
   |none=>none
  |_=>none
 |.mn=>match pF o.op with
  |some (.min,args,_)=>some args
  |_=>none
 |.mx=>match pF o.op with
  |some (.max,args,_)=>some args
  |_=>none
 |.ext i=>match o.op with|.extract t j=>bV (i==j) [t]|_=>none
 |.mki=>match o.op with|.makeInterface t x=>bV (!G7 P t&&(P.underlying t).isSome) [x]|_=>none
 |.mkf f=>match o.op with
  |.makeFunc (.func g) first cap=>bV (num f==g&&first.size==0) cap.toList
  |_=>none
 |.call f _ _=>match o.op with
  |.call {callee:=.value (.func g),args,.. }=>bV (num f==g) args.toList
  |_=>none
 |.calle f=>match o.op with
  |.call {callee:=.value (.func g),args,.. }=>bV (num f==g) args.toList
  |_=>none
 |.callr f=>match o.op with
  |.call {callee:=.value (.func g),args,.. }=>bV (num f==g) args.toList
  |_=>none
 |.callv _ _=>match o.op with
  |.call {callee:=.value f,args,.. }=>some (f::args.toList)
  |_=>none
 |.mkm=>match o.op with|.makeMap _ none=>some []|_=>none
 |.mlk q zero ok=>match o.op with
  |.lookup t m x ok'=>match P.underlying t with
   |some (.map kt et)=>bV (ok==ok'&&xT P kt q&&fitZV P et zero) [m,x]
   |_=>none
  |_=>none
 |.mup q=>match RE o.op with
  |some (t,m,x,y)=>match P.underlying t with
   |some (.map kt _)=>bV (xT P kt q) [m,x,y]
   |_=>none
  |none=>none
 |.mdel q=>match pF o.op with
  |some (.delete,[m,x],argTypes)=>match argTypes[0]? with
   |some t=>match P.underlying t with
    |some (.map kt _)=>bV (xT P kt q) [m,x]
    |_=>none
   |none=>none
  |_=>none
 |.men q zero=>match o.op with
  |.mapEntry t m x=>match P.underlying t with
   |some (.map kt et)=>bV (xT P kt q&&fitZV P et zero) [m,x]
   |_=>none
  |_=>none
 |.mes=>match o.op with|.entryStore _ m s x=>some [m,s,x]|_=>none
 |.bx q=>match o.op with
  |.call {callee:=.value (.func g),args,.. }=>match args.toList with
   |[x,y,c]=>bV (UX P q g) [x,y,c]
   |_=>none
  |_=>none
 |.rng=>match o.op with
  |.range t x=>match P.underlying t with
   |some (.map _ _)=>some [x]
   |_=>none
  |_=>none
 |.ent=>match o.op with|.entry x=>some [x]|_=>none
 |.clr .. => none
end Go.Tev
end
section
namespace Go.Tev
open Go.RowKit
def eE(P:Program)(num:Nm)(Fb:Nat->Prop)(B0:Nat)(ρ : Rho)(w:World)(O:Nat->Prop)(h:Hp)(ρv:Operand->Value)(o:Oper)(v:AV)(eff:Eff):Prop:=
 ∃n cv w' ρ' O',(execOp ρv o).run P w = .ok n w'/\(n = .value cv\/(n = .skip/\cv=undef))/\Evo ρ w O ρ' w' O'/\HpR num Fb B0 ρ' w' O' (eff.app h) /\
  Rv num ρ' w' (fun b=>Fb b\/O' b) v cv
theorem zD(k:IntKind)(n:Int):wr k n=k.wrap n:=by
 unfold wr
 cases k<;>simp only
 all_goals
  split
  ·simp only[IntKind.wrap,IntKind.bits,IntKind.signed];simp;omega
  ·rfl
theorem JH{P:Program}{num:Nm}{ρ : Rho}{F:Nat->Prop}{op:BinOp}{a b r:AV}{x y:Value}(w:World)(t:TypeId)(ox oy:Operand)(h:bin op a b=some r)
  (ha:Rv num ρ w F a x) (hb:Rv num ρ w F b y):∃cv,(do eqGuard op t ox oy x y;binOp op t x y:Sem Value).run P w = .ok cv w/\Rv num ρ w F r cv:=by
 unfold bin at h
 split at h
 ·obtain rfl:=ha.of_int
  obtain rfl:=hb.of_int
  rename_i k a k' b
  split at h
  ·split at h
   ·cases h
   ·cases h;rename_i hn;exact⟨_,by (simp[eqGuard,binOp,Op.shift,hn]<;>rfl),.int _ _⟩
  ·split at h
   ·cases h
   ·cases h;rename_i hn;exact⟨_,by (simp[eqGuard,binOp,Op.shift,hn]<;>rfl),.int _ _⟩
  ·rename_i hs1 hs2
   split at h
   ·rename_i hk;subst hk
    unfold R4 at h
    cases op<;>simp only at h
    case shl=>exact absurd rfl hs1
    case shr=>exact absurd rfl hs2
    case quo=>
     split at h
     ·cases h
     ·rename_i hn;cases h;exact⟨_,by (simp[eqGuard,binOp,Op.intDiv,hn,zD]<;>rfl),.int _ _⟩
    case rem=>
     split at h
     ·cases h
     ·rename_i hn;cases h;exact⟨_,by (simp[eqGuard,binOp,Op.intDiv,hn]<;>rfl),.int _ _⟩
    case add=>cases h;exact⟨_,by (simp[eqGuard,binOp,Op.intArith,zD]<;>rfl),.int _ _⟩
    case sub=>cases h;exact⟨_,by (simp[eqGuard,binOp,Op.intArith,zD]<;>rfl),.int _ _⟩
    case mul=>cases h;exact⟨_,by (simp[eqGuard,binOp,Op.intArith,zD]<;>rfl),.int _ _⟩
    case and=>cases h;exact⟨_,by (simp[eqGuard,binOp,Op.intBits]<;>rfl),.int _ _⟩
    case or=>cases h;exact⟨_,by (simp[eqGuard,binOp,Op.intBits]<;>rfl),.int _ _⟩
    case xor=>cases h;exact⟨_,by (simp[eqGuard,binOp,Op.intBits]<;>rfl),.int _ _⟩
    case andNot=>cases h;exact⟨_,by (simp[eqGuard,binOp,Op.intBits]<;>rfl),.int _ _⟩
    case eql=>cases h;exact⟨.bool (decide (a=b)),by (simp[eqGuard,binOp,Op.intCmp]<;>rfl),.bool _⟩
    case neq=>cases h;exact⟨.bool (!decide (a=b)),by (simp[eqGuard,binOp,Op.intCmp,bne]<;>rfl),.bool _⟩
    case lss=>cases h;exact⟨_,by (simp[eqGuard,binOp,Op.intCmp]<;>rfl),.bool _⟩
    case leq=>cases h;exact⟨_,by (simp[eqGuard,binOp,Op.intCmp]<;>rfl),.bool _⟩
    case gtr=>cases h;exact⟨_,by (simp[eqGuard,binOp,Op.intCmp]<;>rfl),.bool _⟩
    case geq=>cases h;exact⟨_,by (simp[eqGuard,binOp,Op.intCmp]<;>rfl),.bool _⟩
   ·cases h
 ·obtain rfl:=ha.of_str
  obtain rfl:=hb.of_str
  rename_i a b
  have hab:(a==b)=decide (a=b):=by by_cases e:a=b<;>simp[e]
  unfold MX at h
  cases op<;>simp only at h<;>(try (cases h;done))
  case add=>
   split at h
   ·rename_i hn
    cases h
    refine⟨.string ⟨(a++b).toArray⟩,?_,.str _⟩
    have:=run_string_add_sum (P:=P) (w:=w) ⟨a.toArray⟩ ⟨b.toArray⟩ (by simpa[ByteArray.size] using hn)
    simp[eqGuard,binOp,this,ByteArray.mk_append_mk]
   ·cases h
  case eql=>cases h;exact⟨.bool (decide (a=b)),by (simp[eqGuard,binOp,Op.stringOp,hab]<;>rfl),.bool _⟩
  case neq=>cases h;exact⟨.bool (!decide (a=b)),by (simp[eqGuard,binOp,Op.stringOp,hab]<;>rfl),.bool _⟩
  case lss=>cases h;exact⟨_,by (simp[eqGuard,binOp,Op.stringOp,hab]<;>rfl),.bool _⟩
  case leq=>cases h;exact⟨.bool (Op.bytesLess a b||decide (a=b)),by (simp[eqGuard,binOp,Op.stringOp,hab]<;>rfl),.bool _⟩
  case gtr=>cases h;exact⟨.bool (!(Op.bytesLess a b||decide (a=b))),by (simp[eqGuard,binOp,Op.stringOp,hab]<;>rfl),.bool _⟩
  case geq=>cases h;exact⟨_,by (simp[eqGuard,binOp,Op.stringOp,hab]<;>rfl),.bool _⟩
 ·cases h
section
variable{P:Program}{num:Nm}{Fb:Nat->Prop}{B0:Nat}{ρ : Rho}{w:World}{O:Nat->Prop}{h:Hp}{ρv:Operand->Value}{o:Oper}
theorem eE.val{v:AV}{cv:Value}{rd:List Nat}(H:HpR num Fb B0 ρ w O h)(hr:(execOp ρv o).run P w = .ok (.value cv) w)(hv:Rv num ρ w (fun b=>Fb b\/O b) v cv) :
  eE P num Fb B0 ρ w O h ρv o v (.pat rd []):=
 ⟨_,cv,w,ρ,O,hr,.inl rfl,Evo.refl _ _ _,H,hv⟩
theorem bX{v v':AV}{e:Eff}(hh:Tev.val v=some (v',e)):v'=v/\e = .pat [] []:=by
 simp[Tev.val]at hh;exact⟨hh.1.symm,hh.2.symm⟩
theorem aJ.one{α β : Type}{R : α -> β -> Prop}{l:List α}{b : β}(hh:aJ R l [b]):∃a,l=[a]/\R a b:=by
 cases hh with|cons h1 h2=>cases h2;exact⟨_,rfl,h1⟩
theorem aJ.two{α β : Type}{R : α -> β -> Prop}{l:List α}{b c : β}(hh:aJ R l [b,c]):∃a a',l=[a,a']/\R a b/\R a' c:=by
 cases hh with|cons h1 h2=>obtain⟨a,rfl,h3⟩:=h2.one;exact⟨_,_,rfl,h1,h3⟩
theorem aJ.three{α β : Type}{R : α -> β -> Prop}{l:List α}{b c d : β}(hh:aJ R l [b,c,d]):∃a a' a'',l=[a,a',a'']/\R a b/\R a' c/\R a'' d:=by
 cases hh with|cons h1 h2=>obtain⟨a,a',rfl,h3,h4⟩:=h2.two;exact⟨_,_,_,rfl,h1,h3,h4⟩
variable(H:HpR num Fb B0 ρ w O h)
variable{k0:Nat}{l:List Operand}{vs:List AV}{v:AV}{eff:Eff}
variable(hv:aJ (Rv num ρ w (fun b=>Fb b\/O b)) vs (l.map ρv))
include H hv
theorem KM(hf:fitK P num o .mov=some l)(h1:op1 h k0 .mov vs=some (v,eff)):eE P num Fb B0 ρ w O h ρv o v eff:=by
 simp only[fitK]at hf
 split at hf
 ·cases hf;rename_i x ho
  obtain⟨a,rfl,ha⟩:=hv.one
  simp only[op1]at h1;obtain⟨rfl,rfl⟩:=bX h1
  exact .val H (by simp[execOp,ho]) ha
 ·cases hf;rename_i x ho
  obtain⟨a,rfl,ha⟩:=hv.one
  simp only[op1]at h1;obtain⟨rfl,rfl⟩:=bX h1
  exact .val H (by simp[execOp,ho]) ha
 ·cases hf
theorem QY(hf:fitK P num o .cvs=some l)(h1:op1 h k0 .cvs vs=some (v,eff)):eE P num Fb B0 ρ w O h ρv o v eff:=by
 simp only[fitK]at hf
 split at hf
 ·rename_i s d x ho
  obtain⟨hg,rfl⟩:=aO hf
  simp only[Bool.and_eq_true]at hg
  obtain⟨a,rfl,ha⟩:=hv.one
  simp only[op1]at h1
  split at h1
  ·obtain⟨rfl,rfl⟩:=bX h1
   have hx:=ha.of_str
   refine .val H (cv := ρv x) ?_ ha
   simp[execOp,ho,convert,run_underlying (iG hg.1),run_underlying (iG hg.2),hx]
  ·cases h1
 ·cases hf
theorem N3(hf:fitK P num o .pick=some l)(h1:op1 h k0 .pick vs=some (v,eff)):eE P num Fb B0 ρ w O h ρv o v eff:=by
 simp only[fitK]at hf
 split at hf
 ·cases hf;rename_i c x y ho
  obtain⟨a,b,d,rfl,ha,hb,hd⟩:=hv.three
  simp only[op1]at h1
  split at h1
  ·rename_i t
   obtain⟨rfl,rfl⟩:=bX h1
   have:=ha.of_bool
   refine .val (cv:=if t then ρv x else ρv y) H (by simp[execOp,ho,this,asBool]) ?_
   cases t<;>simpa using by assumption
  ·cases h1
 ·cases hf
theorem N4(hf:fitK P num o .nilc=some l)(h1:op1 h k0 .nilc vs=some (v,eff)):eE P num Fb B0 ρ w O h ρv o v eff:=by
 simp only[fitK]at hf
 split at hf
 ·cases hf;rename_i x ho
  obtain⟨a,rfl,ha⟩:=hv.one
  simp only[op1]at h1
  split at h1
  ·obtain⟨rfl,rfl⟩:=bX h1
   obtain⟨L,hx,_⟩:=ha.of_pt
   exact .val H (cv := ρv x) (by simp[execOp,ho,hx]) ha
  ·obtain⟨rfl,rfl⟩:=bX h1
   obtain⟨_,_,_,hx,_⟩:=ha.of_fp
   exact .val H (cv := ρv x) (by simp[execOp,ho,hx]) ha
  ·cases h1
 ·cases hf
theorem Q3(op:BinOp)(hf:fitK P num o (.bin op)=some l)(h1:op1 h k0 (.bin op) vs=some (v,eff)):eE P num Fb B0 ρ w O h ρv o v eff:=by
 simp only[fitK]at hf
 split at hf
 ·rename_i op' t x y t' ho
  obtain⟨hg,rfl⟩:=aO hf
  obtain rfl:op=op':=by simpa using hg
  obtain⟨a,b,rfl,ha,hb⟩:=hv.two
  simp only[op1]at h1
  cases hbin:bin op a b with
  |none=>simp[hbin]at h1
  |some r=>
   rw[hbin]at h1
   obtain⟨rfl,rfl⟩:=bX h1
   have key:=JH (P:=P) (num:=num) (ρ := ρ) (F:=fun b=>Fb b\/O b) w t x y hbin ha hb
   obtain⟨cv,h2,h3⟩:=key
   refine .val H (cv:=cv) ?_ h3
   simp only[execOp,ho]
   rw[Sem.run_bind]at h2
   cases he:(eqGuard op t x y (ρv x) (ρv y)).run P w with
   |ok u w1=>simp only[he,Result.andThen_ok]at h2;simp[he,h2]
   |halt e w1=>simp[he]at h2
 ·cases hf
theorem Q4(ng:Bool)(hf:fitK P num o (.beq ng)=some l)(h1:op1 h k0 (.beq ng) vs=some (v,eff)):eE P num Fb B0 ρ w O h ρv o v eff:=by
 simp only[fitK]at hf
 split at hf
 case h_3=>cases hf
 all_goals
  rename_i t x y t' ho
  obtain⟨hg,rfl⟩:=aO hf
  simp at hg
  obtain⟨rfl,hg⟩:=hg
  obtain⟨a,b,rfl,ha,hb⟩:=hv.two
  simp only[op1]at h1
  split at h1
  ·obtain⟨rfl,rfl⟩:=bX h1
   have e1:=ha.of_bool
   have e2:=hb.of_bool
   refine .val H ?_ (.bool _)
   have q:∀a b:Bool,(Op.equal t (.bool a) (.bool b)).run P w = .ok (a==b) w:=fun a b=>run_equalIn_bool w 9999 t a b (uF hg)
   simp[execOp,ho,e1,e2,eqGuard,binOp,q]
  ·cases h1
theorem TR(op:UnOp)(hf:fitK P num o (.un op)=some l)(h1:op1 h k0 (.un op) vs=some (v,eff)):eE P num Fb B0 ρ w O h ρv o v eff:=by
 simp only[fitK]at hf
 split at hf
 ·rename_i op' t x ho
  obtain⟨hg,rfl⟩:=aO hf
  obtain rfl:op=op':=by simpa using hg
  obtain⟨a,rfl,ha⟩:=hv.one
  simp only[op1]at h1
  split at h1
  ·obtain⟨rfl,rfl⟩:=bX h1
   have e1:=ha.of_int
   refine .val H ?_ (.int _ _)
   simp[execOp,ho,e1,Op.unary,Op.intArith,zD]
  ·obtain⟨rfl,rfl⟩:=bX h1
   have e1:=ha.of_bool
   refine .val H ?_ (.bool _)
   simp[execOp,ho,e1,Op.unary]
  ·cases h1
 ·cases hf
theorem QZ(k:IntKind)(hf:fitK P num o (.cvi k)=some l)(h1:op1 h k0 (.cvi k) vs=some (v,eff)):eE P num Fb B0 ρ w O h ρv o v eff:=by
 simp only[fitK]at hf
 split at hf
 ·rename_i s d x ho
  obtain⟨hg,rfl⟩:=aO hf
  obtain⟨a,rfl,ha⟩:=hv.one
  simp only[op1]at h1
  split at h1
  ·obtain⟨rfl,rfl⟩:=bX h1
   have e1:=ha.of_int
   simp only[Bool.and_eq_true]at hg
   obtain⟨g1,g2⟩:=hg
   split at g1
   ·rename_i k' hd
    obtain rfl:k=k':=by simpa using g1
    unfold AC at g2
    split at g2
    ·rename_i ks hs
     refine .val H ?_ (.int _ _)
     simp[execOp,ho,e1,convert,run_underlying hs,run_underlying hd,Conv.intToInt,zD]
    ·cases g2
   ·cases g1
  ·cases h1
 ·cases hf
end
end Go.Tev
end
section
namespace Go.Tev
open Go.RowKit
theorem fitT_eq{P:Program}{t:TypeId}{sz:Nat}{ag:Bool}(h:fitT P t sz ag=true) :
  ∃i,P.info? t=some i/\i.size=sz/\EK P t=some ag:=by
 unfold fitT at h
 simp only[Bool.and_eq_true,beq_iff_eq]at h
 obtain⟨⟨h1,h2⟩,_⟩:=h
 cases hi:P.info? t with
 |none=>simp[hi]at h1
 |some i=>exact⟨i,rfl,by simpa[hi] using h1,h2⟩
theorem fitT_one{P:Program}{t:TypeId}{sz:Nat}{ag:Bool}(h:fitT P t sz ag=true):ag=false->sz=1:=by
 unfold fitT at h
 simp only[Bool.and_eq_true]at h
 intro e;subst e
 simpa using h.2
theorem fA{P:Program}{t:TypeId}{i:TypeInfo}(w:World)(h:P.info? t=some i):(sizeOf t).run P w = .ok i.size w:=by
 simp[sizeOf,typeInfo,h]
theorem mD{P:Program}{t:TypeId}{ag:Bool}(w:World)(h:EK P t=some ag):(isAgg t).run P w = .ok ag w:=by
 unfold EK at h
 unfold isAgg
 split at h
 ·rename_i fs hu;cases h;simp[run_underlying hu]
 ·rename_i n e hu;cases h;simp[run_underlying hu]
 ·rename_i d h1 h2 hu
  cases h
  simp only[Sem.run_bind,run_underlying hu,Result.andThen_ok]
  rfl
 ·cases h
section
variable{P:Program}{num:Nm}{ρ : Rho}{w:World}{F:Nat->Prop}
theorem CX{cs:List AV}{vs:Array Value}{off sz:Nat}{ag:Bool}{v:AV}{t:TypeId}(hf:fitT P t sz ag=true)(hp:fH cs off sz ag=some v)
  (hl:cs.length=vs.size) (hr:∀(i:Nat)(x:AV)(y:Value),cs[i]?=some x->vs[i]?=some y->Rv num ρ w F x y) :
  ∃cv,(part t vs off).run P w = .ok cv w/\Rv num ρ w F v cv:=by
 obtain⟨i,hi,rfl,ha⟩:=fitT_eq hf
 unfold fH at hp
 cases ag with
 |true=>
  simp only[if_true]at hp
  split at hp
  ·rename_i hle
   cases hp
   refine⟨.agg (vs.extract off (off+i.size)),by simp[part,mD w ha,fA w hi],.agg _ _ ?_ ?_⟩
   ·simp;omega
   ·intro j x y hx hy
    rw[List.getElem?_take]at hx
    split at hx
    ·rw[List.getElem?_drop]at hx
     refine hr (off+j) x y hx ?_
     rw[Array.getElem?_extract]at hy
     split at hy
     ·exact hy
     ·cases hy
    ·cases hx
  ·cases hp
 |false=>
  simp only[Bool.false_eq_true,if_false]at hp
  have hlt:off<cs.length:=by
   rcases Nat.lt_or_ge off cs.length with h|h
   ·exact h
   ·simp[List.getElem?_eq_none h]at hp
  have hv:vs[off]?=some vs[off]:=by simp[hl ▸ hlt]
  exact⟨vs[off],by simp[part,mD w ha,hv],hr off v _ hp hv⟩
theorem AV.fits_cells{v:AV}{sz:Nat}{ag:Bool}(h:v.fits sz ag=true):v.cells.length=sz/\v.isAgg=ag/\(ag=false->sz=1/\v.cells=[v]):=by
 cases v<;>simp[AV.fits,AV.cells,AV.isAgg]at h ⊢ <;> (try (obtain⟨h1,h2⟩:=h;subst h1;subst h2;simp))<;>(try exact h.elim)
end
section
variable{P:Program}{num:Nm}{Fb:Nat->Prop}{B0:Nat}{ρ : Rho}{w:World}{O:Nat->Prop}{h:Hp}{ρv:Operand->Value}{o:Oper}
variable(H:HpR num Fb B0 ρ w O h)
variable{k0:Nat}{l:List Operand}{vs:List AV}{v:AV}{eff:Eff}
variable(hv:aJ (Rv num ρ w (fun b=>Fb b\/O b)) vs (l.map ρv))
include H hv
theorem QS(off sz:Nat)(ag:Bool)(hf:fitK P num o (.fld off sz ag)=some l)(h1:op1 h k0 (.fld off sz ag) vs=some (v,eff)):eE P num Fb B0 ρ w O h ρv o v eff:=by
 simp only[fitK]at hf
 split at hf
 ·rename_i t x f ho
  split at hf
  ·rename_i fd hfd
   obtain⟨hg,rfl⟩:=aO hf
   simp only[Bool.and_eq_true,beq_iff_eq]at hg
   obtain⟨rfl,hg⟩:=hg
   obtain⟨a,rfl,ha⟩:=hv.one
   simp only[op1]at h1
   split at h1
   ·rename_i cs
    cases hp:fH cs fd.offset sz ag with
    |none=>simp[hp]at h1
    |some u=>
     rw[hp]at h1
     obtain⟨rfl,rfl⟩:=bX h1
     obtain⟨cv,hx,hl,hr⟩:=ha.of_agg
     obtain⟨c,h2,h3⟩:=CX (P:=P) (w:=w) hg hp hl hr
     refine .val H (cv:=c) ?_ h3
     unfold BW at hfd
     split at hfd
     ·rename_i fs hu
      simp[execOp,ho,Instr.field,run_underlying hu,hfd,hx,asAgg,h2]
     ·cases hfd
   ·cases h1
  ·cases hf
 ·cases hf
theorem QU(i:Nat)(hf:fitK P num o (.ext i)=some l)(h1:op1 h k0 (.ext i) vs=some (v,eff)):eE P num Fb B0 ρ w O h ρv o v eff:=by
 simp only[fitK]at hf
 split at hf
 ·rename_i x j ho
  obtain⟨hg,rfl⟩:=aO hf
  obtain rfl:i=j:=by simpa using hg
  obtain⟨a,rfl,ha⟩:=hv.one
  simp only[op1]at h1
  split at h1
  ·rename_i cs
   cases hp:cs[i]? with
   |none=>simp[hp]at h1
   |some u=>
    rw[hp]at h1
    obtain⟨rfl,rfl⟩:=bX h1
    obtain⟨c,hx,hl,hr⟩:=ha.of_tup
    have hlt:i<c.size:=by
     rcases Nat.lt_or_ge i cs.length with h|h
     ·omega
     ·simp[List.getElem?_eq_none h]at hp
    have hc:c[i]?=some c[i]:=by simp[hlt]
    exact .val H (cv:=c[i]) (by simp[execOp,ho,Instr.extract,hx,hc]) (hr i _ _ hp hc)
  ·cases h1
 ·cases hf
theorem QI(hf:fitK P num o .mki=some l)(h1:op1 h k0 .mki vs=some (v,eff)):eE P num Fb B0 ρ w O h ρv o v eff:=by
 simp only[fitK]at hf
 split at hf
 ·rename_i t x ho
  obtain⟨hg,rfl⟩:=aO hf
  simp only[Bool.and_eq_true]at hg
  obtain⟨a,rfl,ha⟩:=hv.one
  simp only[op1]at h1
  split at h1
  ·obtain⟨rfl,rfl⟩:=bX h1
   refine .val H (cv:=.iface t (ρv x)) ?_ (.ifc _ _ _ ha)
   obtain⟨g1,g2⟩:=hg
   cases hu:P.underlying t with
   |none=>simp[hu]at g2
   |some d=>
    simp only[G7,hu,Bool.not_eq_true']at g1
    simp only[execOp,ho,Instr.makeInterface,Sem.run_bind,run_underlying hu,Result.andThen_ok]
    split
    ·rename_i ms hd;cases hd
     simp at g1
    ·simp
  ·cases h1
 ·cases hf
theorem QJ(f:Nat)(hf:fitK P num o (.mkf f)=some l)(h1:op1 h k0 (.mkf f) vs=some (v,eff)):eE P num Fb B0 ρ w O h ρv o v eff:=by
 simp only[fitK]at hf
 split at hf
 ·rename_i g first cap ho
  obtain⟨hg,rfl⟩:=aO hf
  simp only[Bool.and_eq_true,beq_iff_eq]at hg
  obtain⟨rfl,hz⟩:=hg
  have hfi:first = #[]:=by simpa using hz
  subst hfi
  simp only[op1]at h1
  obtain⟨rfl,rfl⟩:=bX h1
  refine .val H (cv:=.func (.func (num f)) #[] (cap.map ρv)) (by simp[execOp,ho,Instr.makeFunc]) (.fn _ _ _ ?_ ?_)
  ·simpa using hv.length
  ·intro i x y hx hy
   exact hv.get i x y hx (by simpa using hy)
 ·cases hf
theorem QT(off sz:Nat)(ag:Bool)(hf:fitK P num o (.fad off sz ag)=some l)(h1:op1 h k0 (.fad off sz ag) vs=some (v,eff)):eE P num Fb B0 ρ w O h ρv o v eff:=by
 simp only[fitK]at hf
 split at hf
 ·rename_i t x f ho
  split at hf
  ·rename_i fd hfd
   obtain⟨hg,rfl⟩:=aO hf
   simp only[Bool.and_eq_true,beq_iff_eq,bne_iff_ne]at hg
   obtain⟨⟨rfl,hg⟩,hz⟩:=hg
   obtain⟨a,rfl,ha⟩:=hv.one
   obtain⟨i,hi,hsz,hag⟩:=fitT_eq hg
   have hrun:∀b off',ρv x = .pointer (some ⟨b,off',none⟩)->(execOp ρv o).run P w = .ok (.value (.pointer (some ⟨b,off'+fd.offset,none⟩))) w:=by
    intro b off' hx
    unfold BW at hfd
    split at hfd
    ·rename_i fs hu
     have hne:¬i.size=0:=by omega
     simp[execOp,ho,Instr.fieldAt,run_underlying hu,hfd,hx,Instr.sureAddr,fieldPlace,fA w hi,hne,Addr.add]
     try (intro h0;simp[h0])
    ·cases hfd
   simp only[op1]at h1
   split at h1
   ·rename_i cs
    cases hp:fH cs fd.offset sz ag with
    |none=>simp[hp]at h1
    |some u=>
     simp only[hp,Option.bind_some]at h1
     split at h1
     case isFalse=>cases h1
     rename_i hfit
     obtain⟨hfc,_,hfo⟩:=AV.fits_cells hfit
     obtain⟨rfl,rfl⟩:=bX h1
     obtain⟨b,off',m,hx,hF,hb,hm,hr⟩:=ha.of_fp
     refine .val H (hrun _ _ hx) ?_
     simp only[AV.cells]at hm hr
     unfold fH at hp
     cases ag with
     |true=>
      simp only[if_true]at hp
      split at hp
      ·rename_i hle
       cases hp
       refine .fp _ _ _ (fun n=>m (fd.offset+n)) hF hb ?_ ?_
       ·intro n hn
        simp only[AV.cells,List.length_take,List.length_drop]at hn
        rw[Nat.add_assoc]
        exact hm _ (by omega)
       ·intro j y hy
        simp only[AV.cells,List.getElem?_take]at hy
        split at hy
        ·rw[List.getElem?_drop]at hy
         exact hr _ _ hy
        ·cases hy
      ·cases hp
     |false=>
      simp only[Bool.false_eq_true,if_false]at hp
      have hlt:fd.offset<cs.length:=by
       rcases Nat.lt_or_ge fd.offset cs.length with h|h
       ·exact h
       ·simp[List.getElem?_eq_none h]at hp
      obtain⟨q1,q2⟩:=hfo rfl
      refine .fp _ _ _ (fun n=>m (fd.offset+n)) hF hb ?_ ?_
      ·intro n hn
       rw[q2]at hn
       simp at hn
       subst hn
       exact hm _ hlt
      ·intro j y hy
       rw[q2]at hy
       cases j with
       |zero=>simp at hy;subst hy;exact hr _ _ hp
       |succ j=>simp at hy
   ·obtain⟨rfl,rfl⟩:=bX h1
    obtain⟨L,hx,hL⟩:=ha.of_pt
    have:=hrun _ _ hx
    refine .val H this ?_
    rw[Nat.add_assoc]
    exact .pt _ _ _ L hL
   ·cases h1
  ·cases hf
 ·cases hf
end
end Go.Tev
end
