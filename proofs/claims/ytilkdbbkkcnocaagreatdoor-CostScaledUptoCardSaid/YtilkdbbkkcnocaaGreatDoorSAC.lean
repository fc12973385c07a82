import Derived.Test.YtilkdbbkkcnocaaGreatDoorSAB
import Derived.Laws.Tables
import Derived.Great.BuildSlice
import Derived.Laws.Slices
set_option linter.all false
namespace Go.Tev
section
open Go.RowKit
theorem fitT_eq{P:Program}{t:TypeId}{sz:Nat}{ag:Bool}(h:fitT P t sz ag=true) :
  ∃i,P.info? t=some i/\i.size=sz/\LK P t=some ag:=by
 unfold fitT at h;simp only[aD,beq_iff_eq]at h;obtain⟨⟨h1,h2⟩,_⟩:=h;cases hi:P.info? t with
 |none=>simp[hi]at h1
 |some i=>exact⟨i,rfl,by simpa[hi] using h1,h2⟩
theorem fitT_one{P:Program}{t:TypeId}{sz:Nat}{ag:Bool}(h:fitT P t sz ag=true):ag=false->sz=1:=by unfold fitT at h;simp only[aD]at h;intro e;subst e;simpa using h.2
theorem eS{P:Program}{t:TypeId}{i:TypeInfo}(w:World)(h:P.info? t=some i):(sizeOf t).run P w = .ok i.size w:=by simp[sizeOf,typeInfo,h]
theorem l8{P:Program}{t:TypeId}{ag:Bool}(w:World)(h:LK P t=some ag):(isAgg t).run P w = .ok ag w:=by unfold LK at h;unfold isAgg;split at h;rename_i fs hu;cases h;simp[run_underlying hu];rename_i n e hu;cases h;simp[run_underlying hu];rename_i d h1 h2 hu;cases h;simp only[Sem.run_bind,run_underlying hu,Result.andThen_ok];rfl;cases h
section
variable{P:Program}{num:Nm}{ρ : Rho}{w:World}{F:Nat->Prop}
theorem ID{cs:List AV}{vs:Array Value}{off sz:Nat}{ag:Bool}{v:AV}{t:TypeId}(hf:fitT P t sz ag=true)(hp:eY cs off sz ag=some v)
  (hl:cs.length=vs.size) (hr:∀(i:Nat)(x:AV)(y:Value),cs[i]?=some x->vs[i]?=some y->Rv num ρ w F x y) :
  ∃cv,(part t vs off).run P w = .ok cv w/\Rv num ρ w F v cv:=by
 obtain⟨i,hi,rfl,ha⟩:=fitT_eq hf;unfold eY at hp;cases ag with
 |true=>simp only[if_true]at hp;split at hp;rename_i hle;cases hp;refine⟨.agg (vs.extract off (off+i.size)),by simp[part,l8 w ha,eS w hi],.agg _ _ ?_ ?_⟩;simp;omega;intro j x y hx hy;rw[List.getElem?_take]at hx;split at hx;rw[List.getElem?_drop]at hx;refine hr (off+j) x y hx ?_;rw[Array.getElem?_extract]at hy;split at hy;exact hy;cases hy;cases hx;cases hp
 |false=>
  simp only[Bool.false_eq_true,if_false]at hp;have hlt:off<cs.length:=by rcases Nat.lt_or_ge off cs.length with h|h;exact h;simp[cY h]at hp
  have hv:vs[off]?=some vs[off]:=by simp[hl ▸ hlt]
  exact⟨vs[off],by simp[part,l8 w ha,hv],hr off v _ hp hv⟩
theorem AV.fits_cells{v:AV}{sz:Nat}{ag:Bool}(h:v.fits sz ag=true):v.cells.length=sz/\v.isAgg=ag/\(ag=false->sz=1/\v.cells=[v]):=by cases v<;>simp[AV.fits,AV.cells,AV.isAgg]at h ⊢ <;> (try (obtain⟨h1,h2⟩:=h;subst h1;subst h2;simp))<;>(try exact h.elim)
end
section
variable{P:Program}{num:Nm}{Fb:Nat->Prop}{B0:Nat}{ρ : Rho}{w:World}{O:Nat->Prop}{h:Hp}{ρv:Operand->Value}{o:Oper}
variable(H:HpR num Fb B0 ρ w O h)
variable{k0:Nat}{l:List Operand}{vs:List AV}{v:AV}{eff:Eff}
variable(hv:aJ (Rv num ρ w (λb=>Fb b\/O b)) vs (l.map ρv))
include H hv
theorem aFQ(off sz:Nat)(ag:Bool)(hf:fitK P num o (.fld off sz ag)=some l)(h1:op1 h k0 (.fld off sz ag) vs=some (v,eff)):eC P num Fb B0 ρ w O h ρv o v eff:=by
 simp only[fitK]at hf;split at hf;rename_i t x f ho;split at hf;rename_i fd hfd;obtain⟨hg,rfl⟩:=aL hf;simp only[aD,beq_iff_eq]at hg;obtain⟨rfl,hg⟩:=hg;obtain⟨a,rfl,ha⟩:=hv.one;simp only[op1]at h1;split at h1;rename_i cs;cases hp:eY cs fd.offset sz ag with
 |none=>simp[hp]at h1
 |some u=>rw[hp]at h1;obtain⟨rfl,rfl⟩:=bH h1;obtain⟨cv,hx,hl,hr⟩:=ha.of_agg;obtain⟨c,h2,h3⟩:=ID (P:=P) (w:=w) hg hp hl hr;refine .val H (cv:=c) ?_ h3;unfold FP at hfd;split at hfd;rename_i fs hu;simp[execOp,ho,Instr.field,run_underlying hu,hfd,hx,asAgg,h2];cases hfd
 cases h1;cases hf;cases hf
theorem aFS(i:Nat)(hf:fitK P num o (.ext i)=some l)(h1:op1 h k0 (.ext i) vs=some (v,eff)):eC P num Fb B0 ρ w O h ρv o v eff:=by
 simp only[fitK]at hf;split at hf;rename_i x j ho;obtain⟨hg,rfl⟩:=aL hf;obtain rfl:i=j:=by simpa using hg
 obtain⟨a,rfl,ha⟩:=hv.one;simp only[op1]at h1;split at h1;rename_i cs;cases hp:cs[i]? with
 |none=>simp[hp]at h1
 |some u=>
  rw[hp]at h1;obtain⟨rfl,rfl⟩:=bH h1;obtain⟨c,hx,hl,hr⟩:=ha.of_tup;have hlt:i<c.size:=by rcases Nat.lt_or_ge i cs.length with h|h;omega;simp[cY h]at hp
  have hc:c[i]?=some c[i]:=by simp[hlt]
  exact .val H (cv:=c[i]) (by simp[execOp,ho,Instr.extract,hx,hc]) (hr i _ _ hp hc)
 cases h1;cases hf
theorem aFE(hf:fitK P num o .mki=some l)(h1:op1 h k0 .mki vs=some (v,eff)):eC P num Fb B0 ρ w O h ρv o v eff:=by
 simp only[fitK]at hf;split at hf;rename_i t x ho;obtain⟨hg,rfl⟩:=aL hf;simp only[aD]at hg;obtain⟨a,rfl,ha⟩:=hv.one;simp only[op1]at h1;split at h1;obtain⟨rfl,rfl⟩:=bH h1;refine .val H (cv:=.iface t (ρv x)) ?_ (.ifc _ _ _ ha);obtain⟨g1,g2⟩:=hg;cases hu:P.underlying t with
 |none=>simp[hu]at g2
 |some d=>simp only[qW,hu,fY]at g1;simp only[execOp,ho,Instr.makeInterface,Sem.run_bind,run_underlying hu,Result.andThen_ok];split;rename_i ms hd;cases hd;simp at g1;simp
 cases h1;cases hf
theorem aFF(f:Nat)(hf:fitK P num o (.mkf f)=some l)(h1:op1 h k0 (.mkf f) vs=some (v,eff)):eC P num Fb B0 ρ w O h ρv o v eff:=by
 simp only[fitK]at hf;split at hf;rename_i g first cap ho
 obtain⟨hg,rfl⟩:=aL hf;simp only[aD,beq_iff_eq]at hg;obtain⟨rfl,hz⟩:=hg;have hfi:first = #[]:=by simpa using hz
 subst hfi;simp only[op1]at h1;obtain⟨rfl,rfl⟩:=bH h1;refine .val H (cv:=.func (.func (num f)) #[] (cap.map ρv)) (by simp[execOp,ho,Instr.makeFunc]) (.fn _ _ _ ?_ ?_);simpa using hv.length;intro i x y hx hy;exact hv.get i x y hx (by simpa using hy);cases hf
theorem aFR(off sz:Nat)(ag:Bool)(hf:fitK P num o (.fad off sz ag)=some l)(h1:op1 h k0 (.fad off sz ag) vs=some (v,eff)):eC P num Fb B0 ρ w O h ρv o v eff:=by
 simp only[fitK]at hf;split at hf
 ·rename_i t x f ho;split at hf
  ·rename_i fd hfd;obtain⟨hg,rfl⟩:=aL hf;simp only[aD,beq_iff_eq,bne_iff_ne]at hg;obtain⟨⟨rfl,hg⟩,hz⟩:=hg;obtain⟨a,rfl,ha⟩:=hv.one;obtain⟨i,hi,hsz,hag⟩:=fitT_eq hg;have hrun:∀b off',ρv x = .pointer (some ⟨b,off',none⟩)->(execOp ρv o).run P w = .ok (.value (.pointer (some ⟨b,off'+fd.offset,none⟩))) w:=by
    intro b off' hx;unfold FP at hfd;split at hfd
    ·rename_i fs hu;have hne:¬i.size=0:=by omega
     simp[execOp,ho,Instr.fieldAt,run_underlying hu,hfd,hx,Instr.sureAddr,fieldPlace,eS w hi,hne,Addr.add]
     try (intro h0;simp[h0])
    cases hfd
   simp only[op1]at h1;split at h1;rename_i cs;cases hp:eY cs fd.offset sz ag with
   |none=>simp[hp]at h1
   |some u=>
    simp only[hp,Option.bind_some]at h1;split at h1
    case isFalse=>cases h1
    rename_i hfit;obtain⟨hfc,_,hfo⟩:=AV.fits_cells hfit;obtain⟨rfl,rfl⟩:=bH h1;obtain⟨b,off',m,hx,hF,hb,hm,hr⟩:=ha.of_fp;refine .val H (hrun _ _ hx) ?_;simp only[AV.cells]at hm hr;unfold eY at hp;cases ag with
    |true=>simp only[if_true]at hp;split at hp;rename_i hle;cases hp;refine .fp _ _ _ (λn=>m (fd.offset+n)) hF hb ?_ ?_;intro n hn;simp only[AV.cells,List.length_take,List.length_drop]at hn;rw[Nat.add_assoc];exact hm _ (by omega);intro j y hy;simp only[AV.cells,List.getElem?_take]at hy;split at hy;rw[List.getElem?_drop]at hy;exact hr _ _ hy;cases hy;cases hp
    |false=>
     simp only[Bool.false_eq_true,if_false]at hp;have hlt:fd.offset<cs.length:=by rcases Nat.lt_or_ge fd.offset cs.length with h|h;exact h;simp[cY h]at hp
     obtain⟨q1,q2⟩:=hfo rfl;refine .fp _ _ _ (λn=>m (fd.offset+n)) hF hb ?_ ?_;intro n hn;rw[q2]at hn;simp at hn;subst hn;exact hm _ hlt;intro j y hy;rw[q2]at hy;cases j with
     |zero=>simp at hy;subst hy;exact hr _ _ hp
     |succ j=>simp at hy
   obtain⟨rfl,rfl⟩:=bH h1;obtain⟨L,hx,hL⟩:=ha.of_pt;have:=hrun _ _ hx;refine .val H this ?_;rw[Nat.add_assoc];exact .pt _ _ _ L hL;cases h1
  cases hf
 cases hf
end
end
section
open Go.RowKit
section
variable{P:Program}{num:Nm}{Fb:Nat->Prop}{B0:Nat}{ρ : Rho}{w:World}{O:Nat->Prop}{h:Hp}{ρv:Operand->Value}{o:Oper}
variable(H:HpR num Fb B0 ρ w O h)
variable{k0:Nat}{l:List Operand}{vs:List AV}{v:AV}{eff:Eff}
variable(hv:aJ (Rv num ρ w (λb=>Fb b\/O b)) vs (l.map ρv))
variable(hcst:∀c,ρv (.const c)=c)
theorem fN(b off n:Nat):(Addr.add ⟨b,off,none⟩ n)=⟨b,off+n,none⟩:=by unfold Addr.add;split;rename_i h0;simp[h0];rfl
include H hv
theorem aFO(esz:Nat)(ag:Bool)(arr:Option Nat)(hf:fitK P num o (.iad esz ag arr)=some l)(h1:op1 h k0 (.iad esz ag arr) vs=some (v,eff)) :
  eC P num Fb B0 ρ w O h ρv o v eff:=by
 simp only[fitK]at hf;split at hf
 case h_2=>cases hf
 rename_i t x i ho;obtain⟨hg,rfl⟩:=aL hf;obtain⟨a,b,rfl,ha,hb⟩:=hv.two;simp only[op1]at h1;split at h1
 case h_2=>cases h1
 rename_i ki n;have hi:=hb.of_int;split at hg
 case h_3=>cases hg
 rename_i e hu;obtain⟨ti,hti,hsz,hag⟩:=fitT_eq hg;have hrun:∀b' off' len cap',ρv x = .slice (some ⟨b',off',none⟩) len cap'->0<=n->n<len ->
   (execOp ρv o).run P w = .ok (.value (.pointer (some ⟨b',off'+n.toNat*esz,none⟩))) w:=by
  intro b' off' len cap' hx h0 hlt;simp[execOp,ho,Instr.indexAt,hi,asIntOf,run_underlying hu,hx,h0,hlt,eS w hti,fN,hsz]
 split at h1;rename_i nl es cl _;split at h1
 case isFalse=>cases h1
 rename_i h0;split at h1
 case h_2=>cases h1
 rename_i u hu';split at h1
 case isFalse=>cases h1
 rename_i hfit;obtain⟨rfl,rfl⟩:=bH h1;obtain⟨hfc,_,_⟩:=AV.fits_cells hfit;have hlt:n.toNat<es.length:=by rcases Nat.lt_or_ge n.toNat es.length with q|q;exact q;simp[cY q]at hu'
 cases nl with
 |true=>obtain⟨rfl,_⟩:=ha.of_nsl;simp at hlt
 |false=>
  obtain⟨b',off',cap',sz,m,sp,hx,hsp,_,_,hF,hz,hm,hr⟩:=ha.of_sl;have hne:es≠[]:=by intro q;subst q;simp at hlt
  rw[hsp hne]at hx;have hs:sz=esz:=by rw[<-hfc];exact(hz _ _ hu').symm
  subst hs;refine .val H (hrun _ _ _ _ hx h0 (by omega)) ?_;refine .fp _ _ _ (λj=>m (n.toNat*sz+j)) (hF hne).1 (hF hne).2 ?_ ?_;intro j hj;rw[hfc]at hj;rw[Nat.add_assoc];refine hm _ ?_;have:(n.toNat+1)*sz<=es.length*sz:=Nat.mul_le_mul_right _ hlt;rw[Nat.add_mul,Nat.one_mul]at this;omega;intro j y hy;exact hr _ _ _ _ hu' hy
 rename_i k e' off len cap;split at h1
 case isFalse=>cases h1
 rename_i h0;obtain⟨rfl,rfl⟩:=bH h1;obtain⟨cap',L,hx,hL,_⟩:=ha.of_rf;refine .val H (hrun _ _ _ _ hx h0.1 h0.2) ?_;rw[Nat.add_assoc];exact .pt _ _ _ L hL;rename_i heq;cases heq;rename_i heq;cases heq;cases h1;rename_i n' e m hu;simp only[aD,beq_iff_eq]at hg;obtain⟨rfl,hg⟩:=hg;obtain⟨ti,hti,hsz,hag⟩:=fitT_eq hg;have hrun:∀b' off',ρv x = .pointer (some ⟨b',off',none⟩)->0<=n->n<n' ->
   (execOp ρv o).run P w = .ok (.value (.pointer (some ⟨b',off'+n.toNat*esz,none⟩))) w:=by
  intro b' off' hx h0 hlt;simp[execOp,ho,Instr.indexAt,hi,asIntOf,run_underlying hu,hx,Instr.sureAddr,h0,hlt,eS w hti,fN,hsz]
 split at h1;rename_i heq;cases heq;rename_i heq;cases heq;rename_i len cs heq;cases heq;split at h1
 case isFalse=>cases h1
 rename_i h0;cases hp:eY cs (n.toNat*esz) esz ag with
 |none=>simp[hp]at h1
 |some u=>
  simp only[hp,Option.bind_some]at h1;split at h1
  case isFalse=>cases h1
  rename_i hfit;obtain⟨hfc,_,hfo⟩:=AV.fits_cells hfit;obtain⟨rfl,rfl⟩:=bH h1;obtain⟨b',off',m,hx,hF,hbb,hm,hr⟩:=ha.of_fp;refine .val H (hrun _ _ hx h0.1 h0.2) ?_;simp only[AV.cells]at hm hr;unfold eY at hp;refine .fp _ _ _ (λj=>m (n.toNat*esz+j)) hF hbb ?_ ?_;intro j hj;rw[hfc]at hj;rw[Nat.add_assoc];refine hm _ ?_;cases ag with
  |true=>simp only[if_true]at hp;split at hp;omega;cases hp
  |false=>simp only[Bool.false_eq_true,if_false]at hp;obtain⟨q1,q2⟩:=hfo rfl;rcases Nat.lt_or_ge (n.toNat*esz) cs.length with q|q;omega;simp[cY q]at hp
  intro j y hy;cases ag with
  |true=>simp only[if_true]at hp;split at hp;cases hp;simp only[AV.cells,List.getElem?_take]at hy;split at hy;rw[List.getElem?_drop]at hy;exact hr _ _ hy;cases hy;cases hp
  |false=>
   simp only[Bool.false_eq_true,if_false]at hp;obtain⟨q1,q2⟩:=hfo rfl;rw[q2]at hy;cases j with
   |zero=>simp at hy;subst hy;exact hr _ _ hp
   |succ j=>simp at hy
 rename_i len k e' off heq;cases heq;split at h1
 case isFalse=>cases h1
 rename_i h0;obtain⟨rfl,rfl⟩:=bH h1;obtain⟨L,hx,hL⟩:=ha.of_pt;refine .val H (hrun _ _ hx h0.1 h0.2) ?_;rw[Nat.add_assoc];exact .pt _ _ _ L hL;cases h1
theorem aFM(hf:fitK P num o .ixs=some l)(h1:op1 h k0 .ixs vs=some (v,eff)):eC P num Fb B0 ρ w O h ρv o v eff:=by
 simp only[fitK]at hf;split at hf
 case h_2=>cases hf
 rename_i t x i ho;obtain⟨hg,rfl⟩:=aL hf;obtain⟨a,b,rfl,ha,hb⟩:=hv.two;simp only[op1]at h1;split at h1
 case h_2=>cases h1
 rename_i s k n;split at h1
 case isFalse=>cases h1
 rename_i h0;split at h1
 case h_2=>cases h1
 rename_i c hc;obtain⟨rfl,rfl⟩:=bH h1;have hlt:n.toNat<s.length:=by rcases Nat.lt_or_ge n.toNat s.length with q|q;exact q;simp[cY q]at hc
 refine .val H ?_ (.int _ _);have e1:=ha.of_str;have e2:=hb.of_int;have hget:(⟨s.toArray⟩:ByteArray)[n.toNat]?=some c:=by rw[getElem?_pos _ _ (by simpa[ByteArray.size] using hlt)];rw[cZ hlt]at hc;have:=Option.some.inj hc;rw[<-this];rfl
 simp[execOp,ho,Instr.index,e1,e2,asIntOf,run_underlying (iE hg),h0,hget]
theorem aFN(len esz:Nat)(ag:Bool)(hf:fitK P num o (.ixa len esz ag)=some l)(h1:op1 h k0 (.ixa len esz ag) vs=some (v,eff)):eC P num Fb B0 ρ w O h ρv o v eff:=by
 simp only[fitK]at hf;split at hf
 case h_2=>cases hf
 rename_i t x i ho;obtain⟨hg,rfl⟩:=aL hf;obtain⟨a,b,rfl,ha,hb⟩:=hv.two;simp only[op1]at h1;split at h1
 case h_2=>cases h1
 rename_i cs k n;split at h1
 case isFalse=>cases h1
 rename_i h0;split at hg
 case h_2=>cases hg
 rename_i n' e hu;simp only[aD,beq_iff_eq]at hg;obtain⟨rfl,hg⟩:=hg;obtain⟨ti,hti,hsz,hag⟩:=fitT_eq hg;cases hp:eY cs (n.toNat*esz) esz ag with
 |none=>simp[hp]at h1
 |some u=>simp only[hp,Option.bind_some]at h1;obtain⟨rfl,rfl⟩:=bH h1;obtain⟨cv,hx,hl,hr⟩:=ha.of_agg;obtain⟨c,h2,h3⟩:=ID (P:=P) (w:=w) hg hp hl hr;have e2:=hb.of_int;refine .val H (cv:=c) ?_ h3;simp[execOp,ho,Instr.index,hx,e2,asIntOf,run_underlying hu,h0,eS w hti,hsz,h2]
include hcst in
theorem aFU(q:Nat)(ng:Bool)(hf:fitK P num o (.eqn q ng)=some l)(h1:op1 h k0 (.eqn q ng) vs=some (v,eff)):eC P num Fb B0 ρ w O h ρv o v eff:=by
 simp only[fitK]at hf;split at hf
 case h_2=>cases hf
 rename_i op t x y t' ho;obtain⟨hg,rfl⟩:=aL hf;simp only[aD]at hg;obtain⟨hop,hg⟩:=hg;obtain⟨a,rfl,ha⟩:=hv.one;simp only[op1]at h1;split at h1
 case h_2=>cases h1
 rename_i bb hnil;obtain⟨rfl,rfl⟩:=bH h1;have key:(Op.equal t (ρv x) (ρv y)).run P w = .ok bb w->eqGuard op t x y (ρv x) (ρv y)=pure ()->(∀a,binOp .eql t (ρv x) (ρv y)=a->a=(do pure (.bool (<-Op.equal t (ρv x) (ρv y))))) ->
   (∀a,binOp .neq t (ρv x) (ρv y)=a->a=(do pure (.bool (!(<-Op.equal t (ρv x) (ρv y))))))->eC P num Fb B0 ρ w O h ρv o (AV.bool (if ng=true then !bb else bb)) (Eff.pat [] []):=by
  intro k1 k2 k3 k4;refine .val H ?_ (.bool _);cases ng with
  |false=>
   obtain rfl:op = .eql:=by simpa using hop
   simp[execOp,ho,k2,k3 _ rfl,k1]
  |true=>
   obtain rfl:op = .neq:=by simpa using hop
   simp[execOp,ho,k2,k4 _ rfl,k1]
 have big:∀(x' y':Value)(b:Bool),ρv x=x' -> ρv y=y'->(∀d,(Op.equalIn (d+1) t x' y').run P w = .ok b w)->(Op.equal t (ρv x) (ρv y)).run P w = .ok b w:=by intro x' y' b hx hy hh;rw[hx,hy];exact hh 9999
 split at hg
 ·rename_i e hu;have hy : ρv (.const (.pointer none)) = .pointer none:=hcst _;cases a<;>simp only[AV.isNil]at hnil<;>(try (cases hnil;done))<;>cases hnil;have hx:=ha.of_nilp;exact key (big _ _ _ hx hy (λd=>by simp[Op.equalIn,run_underlying hu])) (by simp[hx,hy,eqGuard]) (by simp[hx,hy,binOp]) (by simp[hx,hy,binOp]);obtain⟨_,_,_,hx,_⟩:=ha.of_fp;exact key (big _ _ _ hx hy (λd=>by simp[Op.equalIn,run_underlying hu])) (by simp[hx,hy,eqGuard]) (by simp[hx,hy,binOp]) (by simp[hx,hy,binOp]);obtain⟨_,hx,_⟩:=ha.of_pt;exact key (big _ _ _ hx hy (λd=>by simp[Op.equalIn,run_underlying hu])) (by simp[hx,hy,eqGuard]) (by simp[hx,hy,binOp]) (by simp[hx,hy,binOp])
 ·rename_i e hu;have hy : ρv (.const (.slice none 0 0)) = .slice none 0 0:=hcst _;cases a<;>simp only[AV.isNil]at hnil<;>(try (cases hnil;done))<;>cases hnil;rename_i es cl;cases bb with
  |true=>obtain⟨rfl,hx⟩:=ha.of_nsl;exact key (big _ _ _ hx hy (λd=>by simp[Op.equalIn,run_underlying hu])) (by simp[hx,hy,eqGuard]) (by simp[hx,hy,binOp]) (by simp[hx,hy,binOp])
  |false=>obtain⟨_,_,_,_,_,_,hx,_⟩:=ha.of_sl;exact key (big _ _ _ hx hy (λd=>by simp[Op.equalIn,run_underlying hu])) (by simp[hx,hy,eqGuard]) (by simp[hx,hy,binOp]) (by simp[hx,hy,binOp])
  obtain⟨_,_,hx,_⟩:=ha.of_rf;exact key (big _ _ _ hx hy (λd=>by simp[Op.equalIn,run_underlying hu])) (by simp[hx,hy,eqGuard]) (by simp[hx,hy,binOp]) (by simp[hx,hy,binOp])
 ·rename_i e e' hu;have hy : ρv (.const (.map none)) = .map none:=hcst _;cases a<;>simp only[AV.isNil]at hnil<;>(try (cases hnil;done))<;>cases hnil;have hx:=ha.of_nilm;exact key (big _ _ _ hx hy (λd=>by simp[Op.equalIn,run_underlying hu])) (by simp[hx,hy,eqGuard]) (by simp[hx,hy,binOp]) (by simp[hx,hy,binOp]);obtain⟨_,hx,_⟩:=ha.of_mp;exact key (big _ _ _ hx hy (λd=>by simp[Op.equalIn,run_underlying hu])) (by simp[hx,hy,eqGuard]) (by simp[hx,hy,binOp]) (by simp[hx,hy,binOp])
 ·rename_i e e' e'' hu;have hy : ρv (.const .nilFunc) = .nilFunc:=hcst _;cases a<;>simp only[AV.isNil]at hnil<;>(try (cases hnil;done))<;>cases hnil;have hx:=ha.of_nilf;exact key (big _ _ _ hx hy (λd=>by simp[Op.equalIn,run_underlying hu])) (by simp[hx,hy,eqGuard]) (by simp[hx,hy,binOp]) (by simp[hx,hy,binOp]);obtain⟨_,hx,_⟩:=ha.of_fn;exact key (big _ _ _ hx hy (λd=>by simp[Op.equalIn,run_underlying hu])) (by simp[hx,hy,eqGuard]) (by simp[hx,hy,binOp]) (by simp[hx,hy,binOp]);obtain⟨_,hx,_⟩:=ha.of_fnm;exact key (big _ _ _ hx hy (λd=>by simp[Op.equalIn,run_underlying hu])) (by simp[hx,hy,eqGuard]) (by simp[hx,hy,binOp]) (by simp[hx,hy,binOp])
 ·rename_i e hu;have hy : ρv (.const .nilIface) = .nilIface:=hcst _;cases a<;>simp only[AV.isNil]at hnil<;>(try (cases hnil;done))<;>cases hnil;have hx:=ha.of_nili;exact key (big _ _ _ hx hy (λd=>by simp[Op.equalIn,run_underlying hu])) (by simp[hx,hy,eqGuard]) (by simp[hx,hy,binOp]) (by simp[hx,hy,binOp]);obtain⟨_,_,hx,_⟩:=ha.of_ifc;exact key (big _ _ _ hx hy (λd=>by simp[Op.equalIn,run_underlying hu])) (by simp[hx,hy,eqGuard]) (by simp[hx,hy,binOp]) (by simp[hx,hy,binOp]);obtain⟨_,hx,_⟩:=ha.of_ift;exact key (big _ _ _ hx hy (λd=>by simp[Op.equalIn,run_underlying hu])) (by simp[hx,hy,eqGuard]) (by simp[hx,hy,binOp]) (by simp[hx,hy,binOp])
 cases hg
theorem YW(n:Nat)(hf:fitK P num o (.lenc n)=some l)(h1:op1 h k0 (.lenc n) vs=some (v,eff)):eC P num Fb B0 ρ w O h ρv o v eff:=by
 simp only[fitK]at hf;split at hf
 case h_2=>cases hf
 rename_i x tys ho;obtain⟨hg,rfl⟩:=aL hf;obtain⟨a,rfl,ha⟩:=hv.one;simp only[op1]at h1;obtain⟨rfl,rfl⟩:=bH h1;obtain⟨cn,hrun⟩:=gT (P:=P) (ρv := ρv) (w:=w) ho;refine .val H (cv:=.int .i64 n) ?_ (.int _ _);rw[hrun];split at hg
 case h_2=>cases hg
 rename_i t ht;split at hg;rename_i m e hu;obtain rfl:m=n:=by simpa using hg
 simp[builtin,Builtin.len_,ht,run_underlying hu,goInt];rename_i ar hu;split at hg;rename_i m e hu';obtain rfl:m=n:=by simpa using hg
 simp[builtin,Builtin.len_,ht,run_underlying hu,run_underlying hu',goInt];cases hg;cases hg
theorem aFL(q:Nat)(hf:fitK P num o (.len q)=some l)(h1:op1 h k0 (.len q) vs=some (v,eff)):eC P num Fb B0 ρ w O h ρv o v eff:=by
 simp only[fitK]at hf;split at hf
 case h_2=>cases hf
 rename_i x tys ho;obtain⟨hg,rfl⟩:=aL hf;obtain⟨a,rfl,ha⟩:=hv.one;obtain⟨cn,hrun⟩:=gT (P:=P) (ρv := ρv) (w:=w) ho;split at hg
 case h_2=>cases hg
 rename_i t ht;split at hg
 case h_4=>cases hg
 rename_i hu;simp only[op1]at h1;split at h1;obtain⟨rfl,rfl⟩:=bH h1;have hx:=ha.of_str;rename_i s;have hsz:(⟨s.toArray⟩:ByteArray).size=s.length:=by simp[ByteArray.size]
 refine .val H (cv:=.int .i64 s.length) ?_ (.int _ _);rw[hrun];simp[builtin,Builtin.len_,ht,run_underlying hu,hx,goInt,hsz];cases h1;rename_i e hu;simp only[op1]at h1;split at h1;rename_i nl es cl;obtain⟨rfl,rfl⟩:=bH h1;cases nl with
 |true=>obtain⟨rfl,hx⟩:=ha.of_nsl;refine .val H (cv:=.int .i64 _) ?_ (.int _ _);rw[hrun];simp[builtin,Builtin.len_,ht,run_underlying hu,hx,goInt]
 |false=>obtain⟨_,_,_,_,_,_,hx,_⟩:=ha.of_sl;refine .val H (cv:=.int .i64 _) ?_ (.int _ _);rw[hrun];simp[builtin,Builtin.len_,ht,run_underlying hu,hx,goInt]
 obtain⟨rfl,rfl⟩:=bH h1;obtain⟨_,_,hx,_⟩:=ha.of_rf;refine .val H (cv:=.int .i64 _) ?_ (.int _ _);rw[hrun];simp[builtin,Builtin.len_,ht,run_underlying hu,hx,goInt];cases h1;rename_i e e' hu;simp only[op1]at h1;split at h1;obtain⟨rfl,rfl⟩:=bH h1;have hx:=ha.of_nilm;refine .val H (cv:=.int .i64 _) ?_ (.int _ _);rw[hrun];simp[builtin,Builtin.len_,ht,run_underlying hu,hx,goInt];split at h1;rename_i es _ _ hes;split at h1;rename_i he;subst he;cases h1;obtain⟨L,hx,hL⟩:=ha.of_mp;obtain⟨L',c,clock,h2,h3,⟨h4,_⟩,_⟩:=H.mpo _ _ _ _ _ hes;rw[hL]at h2;cases h2;refine .val H (cv:=.int .i64 _) ?_ (.int _ _);rw[hrun];simp[builtin,Builtin.len_,ht,run_underlying hu,hx,goInt,getObj,Sem.run,h3,h4];cases h1;cases h1;cases h1
theorem aGa(hf:fitK P num o .cap=some l)(h1:op1 h k0 .cap vs=some (v,eff)):eC P num Fb B0 ρ w O h ρv o v eff:=by
 simp only[fitK]at hf;split at hf
 case h_2=>cases hf
 rename_i x tys ho;obtain⟨hg,rfl⟩:=aL hf;obtain⟨a,rfl,ha⟩:=hv.one;obtain⟨cn,hrun⟩:=gT (P:=P) (ρv := ρv) (w:=w) ho;split at hg
 case h_2=>cases hg
 rename_i t ht;cases hel:lM P t with
 |none=>simp[hel]at hg
 |some e=>
  have hu:=gE hel;simp only[op1]at h1;split at h1;rename_i nl es cl;split at h1;rename_i hcl;obtain⟨rfl,rfl⟩:=bH h1;refine .val H (cv:=.int .i64 es.length) ?_ (.int _ _);rw[hrun];cases nl with
  |true=>obtain⟨rfl,hx⟩:=ha.of_nsl;simp[builtin,Builtin.cap_,ht,run_underlying hu,hx,goInt]
  |false=>obtain⟨_,_,_,_,_,_,hx,_,_,hc,_⟩:=ha.of_sl;have:=hc (by simpa using hcl);simp[builtin,Builtin.cap_,ht,run_underlying hu,hx,goInt,this]
  cases h1;split at h1;rename_i hb;split at h1;rename_i he;subst he;cases h1;obtain⟨cap',L,hx,hL,_,_,htt,_⟩:=ha.of_rf;obtain⟨L',c,T,h2,h3,_⟩:=H.blk _ _ _ _ _ _ _ hb;rw[hL]at h2;cases h2;have:=htt h3;subst this;refine .val H (cv:=.int .i64 _) ?_ (.int _ _);rw[hrun];simp[builtin,Builtin.cap_,ht,run_underlying hu,hx,goInt];cases h1;cases h1;cases h1
omit H hv in
theorem wQ{f:AV->AV->Option AV}{g:Value->Value->Sem Value}{F:Nat->Prop}(hfg:∀a b r x y,f a b=some r->Rv num ρ w F a x->Rv num ρ w F b y->∃z,(g x y).run P w = .ok z w/\Rv num ρ w F r z) :
  ∀(l:List AV)(m:List Value)(a:AV)(x:Value)(r:AV),oY f a l=some r->Rv num ρ w F a x->aJ (Rv num ρ w F) l m->∃z,(m.foldlM g x).run P w = .ok z w/\Rv num ρ w F r z:=by
 intro l
 induction l with
 |nil=>intro m a x r hr ha hl;cases hl;simp[oY]at hr;subst hr;exact⟨x,by simp,ha⟩
 |cons b l ih=>
  intro m a x r hr ha hl;cases hl with
  |cons hb hl=>
   simp only[oY]at hr;cases hfb:f a b with
   |none=>simp[hfb]at hr
   |some z=>rw[hfb]at hr;obtain⟨z',h2,h3⟩:=hfg _ _ _ _ _ hfb ha hb;obtain⟨z'',h4,h5⟩:=ih _ _ _ _ hr h3 hl;exact⟨z'',by simp[h2,h4],h5⟩
theorem aIS(hf:fitK P num o .mn=some l)(h1:op1 h k0 .mn vs=some (v,eff)):eC P num Fb B0 ρ w O h ρv o v eff:=by
 simp only[fitK]at hf;split at hf
 case h_2=>cases hf
 rename_i args tys ho;cases hf;obtain⟨cn,hrun⟩:=gT (P:=P) (ρv := ρv) (w:=w) ho;cases vs with
 |nil=>simp[op1]at h1
 |cons a r=>
  simp only[op1]at h1;cases hfo:oY min2 a r with
  |none=>simp[hfo]at h1
  |some u=>
   rw[hfo]at h1;obtain⟨rfl,rfl⟩:=bH h1;cases l with
   |nil=>cases hv
   |cons x args=>
    cases hv with
    |cons ha hr=>
     obtain⟨z,h2,h3⟩:=wQ (P:=P) (g:=Builtin.min2) (by
      intro a b r x y hh hx hy;unfold min2 at hh;split at hh;split at hh;cases hh;obtain rfl:=hx.of_int;obtain rfl:=hy.of_int;exact⟨_,rfl,.int _ _⟩;cases hh;cases hh) _ _ _ _ _ hfo ha hr
     refine .val H (cv:=z) ?_ h3;rw[hrun];simp[builtin,Builtin.min_,h2]
theorem aIR(hf:fitK P num o .mx=some l)(h1:op1 h k0 .mx vs=some (v,eff)):eC P num Fb B0 ρ w O h ρv o v eff:=by
 simp only[fitK]at hf;split at hf
 case h_2=>cases hf
 rename_i args tys ho;cases hf;obtain⟨cn,hrun⟩:=gT (P:=P) (ρv := ρv) (w:=w) ho;cases vs with
 |nil=>simp[op1]at h1
 |cons a r=>
  simp only[op1]at h1;cases hfo:oY max2 a r with
  |none=>simp[hfo]at h1
  |some u=>
   rw[hfo]at h1;obtain⟨rfl,rfl⟩:=bH h1;cases l with
   |nil=>cases hv
   |cons x args=>
    cases hv with
    |cons ha hr=>
     obtain⟨z,h2,h3⟩:=wQ (P:=P) (g:=Builtin.max2) (by
      intro a b r x y hh hx hy;unfold max2 at hh;split at hh;split at hh;cases hh;obtain rfl:=hx.of_int;obtain rfl:=hy.of_int;exact⟨_,rfl,.int _ _⟩;cases hh;cases hh) _ _ _ _ _ hfo ha hr
     refine .val H (cv:=z) ?_ h3;rw[hrun];simp[builtin,Builtin.max_,h2]
end
end
section
open Go.RowKit
theorem aJ.of_get{α β : Type}{R : α -> β -> Prop}:∀{l:List α}{m:List β},l.length=m.length->(∀(i:Nat)(x : α)(y : β),l[i]?=some x->m[i]?=some y->R x y)->aJ R l m
 |[],[],_,_ => .nil
 |[],_::_,h,_=>by simp at h
 |_::_,[],h,_=>by simp at h
 |a::l,b::m,h,hr => .cons (hr 0 a b rfl rfl) (aJ.of_get (by simpa using h) (λi x y hx hy=>hr (i+1) x y (by simpa using hx) (by simpa using hy)))
theorem aJ.append{α β : Type}{R : α -> β -> Prop}{l l':List α}{m m':List β}(h:aJ R l m)(h':aJ R l' m'):aJ R (l++l') (m++m'):=by
 induction h with
 |nil=>exact h'
 |cons hr _ ih=>exact .cons hr ih
theorem aJ.imp{α β : Type}{R R' : α -> β -> Prop}{l:List α}{m:List β}(h:aJ R l m)(hi:∀a b,R a b->R' a b):aJ R' l m:=by
 induction h with
 |nil=>exact .nil
 |cons hr _ ih=>exact .cons (hi _ _ hr) ih
theorem mK(cs new:List AV)(off:Nat)(h:off<=cs.length)(i:Nat) :
  (eF cs off new)[i]?=if i<off then cs[i]? else if i<off+new.length then new[i-off]? else cs[i]?:=by
 unfold eF;rw[List.append_assoc,List.getElem?_append];have hl:(cs.take off).length=off:=by simp;omega
 rw[hl];split;rw[List.getElem?_take,if_pos (by assumption)];rw[List.getElem?_append];split;rw[if_pos (by omega)];rw[if_neg (by omega),List.getElem?_drop];congr 1;omega
theorem jA(cs new:List AV)(off:Nat)(h:off<=cs.length):(eF cs off new).length=max cs.length (off+new.length):=by unfold eF;simp;omega
theorem MT(off:Nat):∀(l:List Value)(k:Nat)(cells:Array Value)(n:Nat),
  ((l.zipIdx k).foldl (λcs x=>cs.setIfInBounds (off+x.2) x.1) cells)[n]? =
    if off+k<=n/\n<off+k+l.length/\n<cells.size then l[n-(off+k)]? else cells[n]?:=by
 intro l
 induction l with
 |nil=>intro k cells n;simp;intro h1 h2;omega
 |cons v r ih=>
  intro k cells n;simp only[List.zipIdx_cons,List.foldl_cons];rw[ih];simp only[Array.size_setIfInBounds,List.length_cons];by_cases h1:off+(k+1)<=n/\n<off+(k+1)+r.length/\n<cells.size;rw[if_pos h1,if_pos (by omega)];have:n-(off+k)=(n-(off+(k+1)))+1:=by omega
  rw[this];simp;rw[if_neg h1];by_cases h2:n=off+k;subst h2;by_cases h3:off+k<cells.size;rw[if_pos (by omega)];simp[Array.getElem?_setIfInBounds,h3];rw[if_neg (by omega)];simp[Array.getElem?_setIfInBounds,h3];rw[if_neg (by omega)];rw[Array.getElem?_setIfInBounds,if_neg (by omega)]
theorem IB(off:Nat):∀(l:List Value)(k:Nat)(cells:Array Value),
  ((l.zipIdx k).foldl (λcs x=>cs.setIfInBounds (off+x.2) x.1) cells).size=cells.size:=by
 intro l
 induction l with
 |nil=>intro k cells;rfl
 |cons v r ih=>intro k cells;simp only[List.zipIdx_cons,List.foldl_cons];rw[ih];simp
section
variable{num:Nm}{ρ : Rho}{w:World}{F:Nat->Prop}
theorem Rv.cells_all2{v:AV}{c:Value}{sz:Nat}{ag:Bool}(h:Rv num ρ w F v c)(hf:v.fits sz ag=true):aJ (Rv num ρ w F) v.cells c.cells.toList:=by
 obtain⟨h1,h2,h3⟩:=AV.fits_cells hf;cases ag with
 |false=>
  have hc:c.cells = #[c]:=by cases h<;>first|rfl|(simp[AV.fits]at hf;done)|(simp[AV.isAgg]at h2;done)
  rw[(h3 rfl).2,hc];exact .cons h .nil
 |true=>cases v<;>simp[AV.isAgg]at h2;obtain⟨vs,rfl,hl,hr⟩:=h.of_agg;exact aJ.of_get (by simpa[Value.cells,AV.cells] using hl) (λi x y hx hy=>hr i x y hx (by simpa[Value.cells] using hy))
theorem Rv.one_cell{v:AV}{c:Value}(h:Rv num ρ w F v c)(ho:v.one=true):c.oneCell'=true:=by cases h<;>simp[AV.one]at ho<;>rfl
theorem mP:∀{l:List AV},bC l=true->∀(i:Nat)(x:AV),l[i]?=some x->x.one=true
 |[],_,i,x,h=>by simp at h
 |y::r,h,i,x,hx=>by
  simp only[bC,aD]at h;cases i with
  |zero=>simp at hx;exact hx ▸ h.1
  |succ i=>exact mP h.2 i x (by simpa using hx)
theorem RS{cs:List AV}{cells:Array Value}{vc:List AV}{c:Value}{off:Nat}(hcs:aJ (Rv num ρ w F) cs cells.toList)(hvc:aJ (Rv num ρ w F) vc c.cells.toList)
  (hle:off+vc.length<=cs.length) :
  aJ (Rv num ρ w F) (eF cs off vc) (c.cells.zipIdx.foldl (λcs (c,j)=>cs.setIfInBounds (off+j) c) cells).toList:=by
 have hlen:cells.size=cs.length:=by simpa using hcs.length.symm
 have hlv:c.cells.size=vc.length:=by simpa using hvc.length.symm
 have hconv:c.cells.zipIdx.foldl (λcs (c,j)=>cs.setIfInBounds (off+j) c) cells=((c.cells.toList.zipIdx 0).foldl (λcs x=>cs.setIfInBounds (off+x.2) x.1) cells):=by rw[<-Array.foldl_toList,Array.toList_zipIdx]
 rw[hconv];refine aJ.of_get ?_ ?_;have e:((c.cells.toList.zipIdx 0).foldl (λcs x=>cs.setIfInBounds (off+x.2) x.1) cells).toList.length=cells.size:=by rw[Array.length_toList,IB]
 rw[jA _ _ _ (by omega),e];omega;intro i x y hx hy;rw[mK _ _ _ (by omega)]at hx;rw[Array.getElem?_toList,MT]at hy;by_cases h1:i<off;rw[if_pos h1]at hx;rw[if_neg (by omega)]at hy;exact hcs.get i x y hx (by simpa using hy);rw[if_neg h1]at hx;by_cases h2:i<off+vc.length;rw[if_pos h2]at hx;rw[if_pos (by simp;omega)]at hy;exact hvc.get (i-off) x y hx (by simpa using hy);rw[if_neg h2]at hx;rw[if_neg (by simp;omega)]at hy;exact hcs.get i x y hx (by simpa using hy)
theorem qC:∀(ps:List (Nat×Nat))(vs:List AV)(zero:List AV)(cells:Array Value)(is:List Nat)(cvs:List Value)(place:Nat->Option (Nat×Nat))(r:List AV),
  oB zero ps vs=some r->aJ (Rv num ρ w F) zero cells.toList->aJ (Rv num ρ w F) vs cvs->is.length=ps.length->(∀(j:Nat)(i:Nat)(p:Nat×Nat),is[j]?=some i->ps[j]?=some p->place i=some p) ->
  ∃out,Instr.fill place cells (is.zip cvs)=some out/\aJ (Rv num ρ w F) r out.toList
 |[],[],zero,cells,is,cvs,place,r,h,hz,hv,hl,hp=>by simp[oB]at h;subst h;cases hv;exact⟨cells,by simp[Instr.fill],hz⟩
 |[],_::_,_,_,_,_,_,_,h,_,_,_,_=>by simp[oB]at h
 |_::_,[],_,_,_,_,_,_,h,_,_,_,_=>by simp[oB]at h
 |(off,sz)::ps,v::vs,zero,cells,is,cvs,place,r,h,hz,hv,hl,hp=>by
  simp only[oB]at h;split at h
  case isFalse=>cases h
  rename_i hc;obtain⟨h1,h2,h3⟩:=hc;cases hv with
  |cons hvc hvr=>
   cases is with
   |nil=>simp at hl
   |cons i is=>
    rename_i cv cvs;have hcell:=Rv.cells_all2 hvc h3;have hszc:cv.cells.size=sz:=by rw[<-h1];simpa using hcell.length.symm
    have hlen:cells.size=zero.length:=by simpa using hz.length.symm
    have hstep:=RS hz hcell (off:=off) (by omega);obtain⟨out,ho1,ho2⟩:=qC ps vs _ _ is cvs place r h hstep hvr (by simpa using hl) (λj i' p hi hp'=>hp (j+1) i' p (by simpa using hi) (by simpa using hp'));refine⟨out,?_,ho2⟩;simp only[List.zip_cons_cons,Instr.fill,hp 0 i (off,sz) rfl rfl];rw[if_neg (by simp;omega)];exact ho1
end
theorem fitZ_eq{P:Program}{t:TypeId}{zero:List AV}(h:fitZ P t zero=true):∃i z,P.info? t=some i/\i.zero=some z/\fitL zero z.cells.toList=true:=by unfold fitZ at h;split at h;rename_i i hi;split at h;rename_i z hz;exact⟨i,z,hi,hz,h⟩;cases h;cases h
section
variable{P:Program}{num:Nm}{Fb:Nat->Prop}{B0:Nat}{ρ : Rho}{w:World}{O:Nat->Prop}{h:Hp}{ρv:Operand->Value}{o:Oper}
variable(H:HpR num Fb B0 ρ w O h)
variable{k0:Nat}{l:List Operand}{vs:List AV}{v:AV}{eff:Eff}
variable(hv:aJ (Rv num ρ w (λb=>Fb b\/O b)) vs (l.map ρv))
include H hv
omit H hv in
theorem RV{F:Nat->Prop}(d:Nat)(cs ds:List AV)(xs ys:Array Value)(hx:aJ (Rv num ρ w F) cs xs.toList)(hy:aJ (Rv num ρ w F) ds ys.toList) :
  ∀(fs:List Field)(qs:List Nat)(i:Nat)(b:Bool),jN P i fs qs=true->eqC qs (cs.drop i) (ds.drop i)=some b->(Op.eqFields (d+1) xs ys fs).run P w = .ok b w:=by
 intro fs
 induction fs with
 |nil=>
  intro qs i b hp hb;cases qs with
  |cons q qs=>simp[jN]at hp
  |nil=>
   have:b=true:=by cases h1:cs.drop i<;>cases h2:ds.drop i<;>simp[eqC,h1,h2]at hb;exact hb
   subst this;simp[Op.eqFields]
 |cons f fs ih=>
  intro qs i b hp hb;cases qs with
  |nil=>simp[jN]at hp
  |cons q qs=>
   simp only[jN,aD,beq_iff_eq,bne_iff_ne]at hp;obtain⟨⟨⟨hoff,hname⟩,hkind⟩,hrest⟩:=hp;rcases Nat.lt_or_ge i cs.length with l1|l1
   case inr=>rw[List.drop_eq_nil_of_le l1]at hb;simp[eqC]at hb
   rcases Nat.lt_or_ge i ds.length with l2|l2
   case inr=>rw[List.drop_eq_nil_of_le l2]at hb;simp[eqC]at hb
   have l4:i<xs.size:=by have:=hx.length;simp at this;omega
   have l5:i<ys.size:=by have:=hy.length;simp at this;omega
   have hxi:=hx.get i cs[i] xs[i] (by simp[l1]) (by simp[l4]);have hyi:=hy.get i ds[i] ys[i] (by simp[l2]) (by simp[l5]);rw[sD l1,sD l2]at hb;generalize cs[i]=x at hxi hb;generalize ds[i]=y at hyi hb;simp only[eqC]at hb;split at hb
   case h_2=>cases hb
   rename_i a b' ha hb';cases hb;have ih':=ih qs (i+1) b' hrest hb';have fin:LK P f.type=some false->(Op.equalIn (d+1) f.type xs[i] ys[i]).run P w = .ok a w->(Op.eqFields (d+1) xs ys (f::fs)).run P w = .ok (a&&b') w:=by
    intro q hq;have hpart:∀(zs:Array Value)(hz:i<zs.size),(part f.type zs f.offset).run P w = .ok zs[i] w:=by intro zs hz;simp[part,l8 w q,hoff,hz]
    simp only[Op.eqFields];rw[if_pos hname];simp only[Sem.run_bind,hpart _ l4,hpart _ l5,Result.andThen_ok,hq];cases a<;>simp[ih']
   split at ha;split at ha;rename_i hk;subst hk;cases ha;obtain⟨kk,hu⟩:=zY hkind;refine fin (by simp[LK,hu]) ?_;rw[hxi.of_int,hyi.of_int];simp[Op.equalIn,run_underlying hu];rfl;cases ha;cases ha;have hu:=iE hkind;refine fin (by simp[LK,hu]) ?_;rw[hxi.of_str,hyi.of_str,run_equalIn_string w d f.type _ _ hu];rename_i s1 s2;have hab:(s1==s2)=decide (s1=s2):=by by_cases e:s1=s2<;>simp[e]
   simp[hab];cases ha;have hu:=vF hkind;refine fin (by simp[LK,hu]) ?_;rw[hxi.of_bool,hyi.of_bool,run_equalIn_bool w d f.type _ _ hu];cases ha
theorem aFT(ng:Bool)(qs:List Nat)(hf:fitK P num o (.eqs ng qs)=some l)(h1:op1 h k0 (.eqs ng qs) vs=some (v,eff)):eC P num Fb B0 ρ w O h ρv o v eff:=by
 simp only[fitK]at hf;split at hf
 case h_2=>cases hf
 rename_i op t x y t' ho;obtain⟨hg,rfl⟩:=aL hf;simp only[aD,fY]at hg;obtain⟨⟨⟨hop,hpl⟩,hst⟩,heg⟩:=hg;obtain⟨a,b,rfl,ha,hb⟩:=hv.two;simp only[op1]at h1;split at h1
 case h_2=>cases h1
 rename_i cs ds;split at h1
 case h_2=>cases h1
 rename_i bb hbb;obtain⟨rfl,rfl⟩:=bH h1;obtain⟨xs,hx,hlx,hrx⟩:=ha.of_agg;obtain⟨ys,hy,hly,hry⟩:=hb.of_agg;unfold wJ at hpl;split at hpl
 case h_2=>cases hpl
 rename_i fs hu;have hfs:P.fieldsOf t=fs:=by simp[Program.fieldsOf,hu]
 have ex:aJ (Rv num ρ w (λb=>Fb b\/O b)) cs xs.toList:=aJ.of_get (by simpa using hlx) (λi x y hx hy=>hrx i x y hx (by simpa using hy));have ey:aJ (Rv num ρ w (λb=>Fb b\/O b)) ds ys.toList:=aJ.of_get (by simpa using hly) (λi x y hx hy=>hry i x y hx (by simpa using hy));have hrun:=RV (P:=P) (w:=w) 9998 cs ds xs ys ex ey fs.toList qs 0 bb hpl (by simpa using hbb);have hq:(Op.equal t (.agg xs) (.agg ys)).run P w = .ok bb w:=by have h2:=run_equalIn_struct (P:=P) w 9999 t xs ys (by rw[hfs];exact hu) hst;rw[hfs]at h2;exact h2.trans hrun
 have hgd:=run_eqGuard_agg (P:=P) w op t x y xs ys heg;refine .val H (cv:=.bool (if ng=true then !bb else bb)) ?_ (.bool _);cases ng with
 |false=>
  obtain rfl:op = .eql:=by simpa using hop
  simp only[execOp,ho,hx,hy,Sem.run_bind,hgd,Result.andThen_ok];simp[binOp,hq]
 |true=>
  obtain rfl:op = .neq:=by simpa using hop
  simp only[execOp,ho,hx,hy,Sem.run_bind,hgd,Result.andThen_ok];simp[binOp,hq]
omit H hv in
theorem CL:∀(fs:List Field),(fs.all λf=>(P.info? f.type).isSome)=true ->
  ∃places,fs.mapM (λf=>(P.info? f.type).map λi=>(f.offset,i.size))=some places/\∀(i:Nat)(f:Field),fs[i]?=some f->∃ti,P.info? f.type=some ti/\places[i]?=some (f.offset,ti.size)
 |[],_=>⟨[],by simp,by intro i f h;simp at h⟩
 |f::fs,h=>by
  simp only[List.all_cons,aD]at h;obtain⟨places,h1,h2⟩:=CL fs h.2;cases hi:P.info? f.type with
  |none=>simp[hi]at h
  |some ti=>
   refine⟨(f.offset,ti.size)::places,by simp[h1,hi],?_⟩;intro i g hg;cases i with
   |zero=>simp at hg;subst hg;exact⟨ti,hi,rfl⟩
   |succ i=>simpa using h2 i g (by simpa using hg)
omit H hv in
theorem fitParts_get(t:TypeId):∀(ps:List (Nat×Operand))(qs:List (Nat×Nat)),fitParts P t ps qs=true->ps.length=qs.length /\
  ∀(j:Nat)(i:Nat)(p:Nat×Nat),(ps.map (·.1))[j]?=some i->qs[j]?=some p->(match P.underlying t with
   |some (.struct fs)=>match fs[i]? with|some f=>f.offset=p.1/\(P.info? f.type).map (·.size)=some p.2|none=>False
   |some (.array _ e)=>(P.info? e).map (·.size)=some p.2/\p.1=i*p.2
   |_=>False)
 |[],[],_=>⟨rfl,by intro j i p h;simp at h⟩
 |[],_::_,h=>by simp[fitParts]at h
 |_::_,[],h=>by simp[fitParts]at h
 |(i,x)::ps,(off,sz)::qs,h=>by
  simp only[fitParts,aD]at h;obtain⟨h1,h2⟩:=h;obtain⟨h3,h4⟩:=fitParts_get t ps qs h2;refine⟨by simp[h3],?_⟩;intro j i' p hi hp;cases j with
  |zero=>simp at hi hp;subst hi;subst hp;split at h1;rename_i fs hu;split at h1;rename_i f hf;simp only[aD,beq_iff_eq]at h1;simp only[hu,hf];exact h1;cases h1;rename_i n e hu;simp only[aD,beq_iff_eq]at h1;simp only[hu];exact h1;cases h1
  |succ j=>exact h4 j i' p (by simpa using hi) (by simpa using hp)
theorem TY(zero:List AV)(parts:List (Nat×Nat))(hf:fitK P num o (.build zero parts)=some l)(h1:op1 h k0 (.build zero parts) vs=some (v,eff)):eC P num Fb B0 ρ w O h ρv o v eff:=by
 simp only[fitK]at hf;split at hf
 case h_2=>cases hf
 rename_i t ps ho;obtain⟨hg,rfl⟩:=aL hf;simp only[aD]at hg;obtain⟨⟨hz,hp⟩,hok⟩:=hg;simp only[op1]at h1;cases hfa:oB zero parts vs with
 |none=>simp[hfa]at h1
 |some cs=>
  simp only[hfa,Option.bind_some]at h1;obtain⟨rfl,rfl⟩:=bH h1;obtain⟨ti,z,hti,hzz,hfz⟩:=fitZ_eq hz;obtain⟨hl,hget⟩:=fitParts_get t ps.toList parts hp
  have hzip:(ps.map fun(i,x)=>(i,ρv x)).toList=(ps.toList.map (·.1)).zip ((ps.toList.map (·.2)).map ρv):=by
   rw[Array.toList_map];generalize ps.toList=q
   induction q with
   |nil=>rfl
   |cons a q ih=>simp[ih]
  have fin:∀(place:Nat->Option (Nat×Nat)),(∀(j:Nat)(i:Nat)(p:Nat×Nat),(ps.toList.map (·.1))[j]?=some i->parts[j]?=some p->place i=some p) ->
    (∀out,Instr.fill place z.cells (ps.map fun(i,x)=>(i,ρv x)).toList=some out->P.built t (ps.map fun(i,x)=>(i,ρv x)).toList=some out)->eC P num Fb B0 ρ w O h ρv o (.agg cs) (.pat [] []):=by
   intro place hplace hb;obtain⟨out,h2,h3⟩:=qC (num:=num) (ρ := ρ) (w:=w) (F:=λb=>Fb b\/O b) parts vs zero z.cells (ps.toList.map (·.1)) _ place cs hfa (fitL_sound hfz) hv (by simpa using hl) hplace;rw[<-hzip]at h2;refine .val H (cv:=.agg out) ?_ (.of_all2_agg h3);have:=run_build (P:=P) w t (ps.map fun(i,x)=>(i,ρv x)) out (hb _ h2);simp[execOp,ho,this]
  unfold OS at hok;split at hok;rename_i fs hu;obtain⟨places,hpl,hpg⟩:=CL fs.toList hok;refine fin (places.toArray[·]?) ?_ ?_;intro j i p hi hp';have:=hget j i p hi hp';simp only[hu]at this;split at this;rename_i f hf';obtain⟨t',ht1,ht2⟩:=hpg i f (by simpa using hf');rw[ht1]at this;simp at this;simp[ht2];exact Prod.ext this.1 this.2;exact this.elim;intro out hout;simp only[Program.built,hti,hu,hzz,hpl];exact hout;rename_i n e hu;cases hie:P.info? e with
  |none=>simp[hie]at hok
  |some ie=>refine fin (λi=>some (i*ie.size,ie.size)) ?_ ?_;intro j i p hi hp';have:=hget j i p hi hp';simp only[hu,hie]at this;simp at this;obtain⟨q1,q2⟩:=this;have:p=(i*ie.size,ie.size):=Prod.ext (by rw[q2,q1]) q1.symm;rw[this];intro out hout;simp only[Program.built,hti,hu,hzz,hie];exact hout
  cases hok
end
end
section
open Go.RowKit
theorem gJ(w:World)(o:Obj):jL w (w.alloc o) o:=⟨rfl,rfl,rfl,rfl⟩
theorem hX(w:World)(o:Obj):jL w (w.drew.alloc o) o:=⟨rfl,rfl,rfl,rfl⟩
section
variable{P:Program}{num:Nm}{Fb:Nat->Prop}{B0:Nat}{ρ : Rho}{w:World}{O:Nat->Prop}{h:Hp}{ρv:Operand->Value}{o:Oper}
theorem HpR.pushed{w':World}{ob:Obj}(H:HpR num Fb B0 ρ w O h)(hp:jL w w' ob):Evo ρ w O ρ w' O/\HpR num Fb B0 ρ w' O h:=by
 have ev:Evo ρ w O ρ w' O:=⟨hp.os,hp.tape,hp.output,(by have:=hp.size;omega),λb hb _=>hp.old hb,λ_ _ h=>h,λ_ _ _ h=>h⟩
 exact⟨ev,H.same ev (λb hO=>hp.old (H.own b hO).2)⟩
theorem kZ(b:Nat)(T:TypeId):∀(vs:List Value)(o:Nat)(w:World)(c:Array Value),w.heap[b]?=some (.cells c T (0,0))->o+vs.length<=c.size ->
  ∃c',fH w (w.setCells b o vs) b (.cells c' T (0,0))/\c'.size=c.size/\∀i,c'[i]?=if o<=i/\i<o+vs.length then vs[i-o]? else c[i]?
 |[],o,w,c,hc,hle=>⟨c,⟨rfl,rfl,rfl,rfl,hc,λ_ _=>rfl⟩,rfl,λi=>by simp only[List.length_nil];rw[if_neg (by omega)]⟩
 |v::r,o,w,c,hc,hle=>by
  simp only[List.length_cons]at hle;have h1:(w.setCell ⟨b,o,none⟩ v).heap[b]?=some (.cells (c.setIfInBounds o v) T (0,0)):=by simp[World.setCell,Array.getElem?_modify,hc]
  obtain⟨c',ht,hs,hg⟩:=kZ b T r (o+1) (w.setCell ⟨b,o,none⟩ v) (c.setIfInBounds o v) h1 (by simp;omega);refine⟨c',⟨ht.os,ht.tape,ht.output,by rw[World.setCells,ht.size];simp[World.setCell],ht.here,λk hk=>?_⟩,by rw[hs];simp,λi=>?_⟩;rw[World.setCells,ht.other k hk];simp only[World.setCell,Array.getElem?_modify];rw[if_neg (λe=>hk e.symm)];rw[hg];by_cases h2:i=o;subst h2;rw[if_neg (by omega),if_pos (by simp)];simp[Array.getElem?_setIfInBounds,show i<c.size by omega];by_cases h3:o+1<=i/\i<o+1+r.length;rw[if_pos h3,if_pos (by simp;omega)];rw[show i-o=(i-(o+1))+1 by omega];simp;rw[if_neg h3,if_neg (by simp;omega)];rw[Array.getElem?_setIfInBounds,if_neg (by omega)]
theorem pO{t:TypeId}{sz:Nat}{ag:Bool}(w:World)(hf:fitT P t sz ag=true)(b off:Nat)(m:Nat->Value)(hm:∀n,n<sz->w.cell? ⟨b,off+n,none⟩=some (m n))(h1:ag=false->sz=1) :
  (loadVar t ⟨b,off,none⟩).run P w = .ok (if ag then .agg ((List.range sz).map m).toArray else m 0) w:=by
 obtain⟨i,hi,rfl,ha⟩:=fitT_eq hf;cases ag with
 |true=>
  have hl:((List.range i.size).map m).length=i.size:=by simp
  have h2:=run_loadCells_list (P:=P) w ⟨b,off,none⟩ ((List.range i.size).map m) (by
   intro j v hj;rw[fN];have hlt:j<i.size:=by rcases Nat.lt_or_ge j i.size with q|q;exact q;simp[cY (show ((List.range i.size).map m).length<=j by simpa using q)]at hj
   have:=hm j hlt;simp[hlt]at hj;rw[this,hj])
  rw[hl]at h2;simp[loadVar,l8 w ha,eS w hi,h2]
 |false=>have:=hm 0 (by rw[h1 rfl];omega);simp at this;simp[loadVar,l8 w ha,this]
variable(H:HpR num Fb B0 ρ w O h)
variable{k0:Nat}{l:List Operand}{vs:List AV}{v:AV}{eff:Eff}
variable(hv:aJ (Rv num ρ w (λb=>Fb b\/O b)) vs (l.map ρv))
include H
theorem CM{k e:Nat}{cs:List AV}{esz:Nat}{ag' ti fz:Bool}{L:Loc}{off sz:Nat}{ag:Bool}{t:TypeId}(hg:h.get k=some (e,.blk cs esz ag' ti fz))(hL : ρ k e=some L)
  (hf:fitT P t sz ag=true) (hp:eY cs off sz ag=some v) (h1:ag=false->sz=1) :
  ∃cv,(loadVar t ⟨L.b,L.base+off,none⟩).run P w = .ok cv w/\Rv num ρ w (λb=>Fb b\/O b) v cv:=by
 obtain⟨L0,c,T,q1,q2,q3,q4,q5,q6,q7,_⟩:=H.blk _ _ _ _ _ _ _ hg;rw[hL]at q1;cases q1;have hcell:∀n,n<cs.length->w.cell? ⟨L.b,L.base+n,none⟩=some (c.getD (L.base+n) undef):=by
  intro n hn;simp only[World.cell?,q4,Option.isSome_none,Bool.false_eq_true,if_false];have:L.base+n<c.size:=by omega
  simp[this]
 have hr:∀(n:Nat)(x:AV),cs[n]?=some x->Rv num ρ w (λb=>Fb b\/O b) x (c.getD (L.base+n) undef):=by intro n x hx;obtain⟨y,hy,hr⟩:=q7 n x hx;simp[Array.getD,lZ]at hy ⊢;obtain⟨hlt,hy⟩:=hy;rw[dif_pos hlt,hy];exact hr
 unfold eY at hp;cases ag with
 |true=>
  simp only[if_true]at hp;split at hp
  case isFalse=>cases hp
  rename_i hle;cases hp;refine⟨_,pO w hf _ _ (λn=>c.getD (L.base+(off+n)) undef) (λn hn=>by rw[Nat.add_assoc];exact hcell _ (by omega)) h1,?_⟩;simp only[if_true];refine .agg _ _ (by simp;omega) ?_;intro i x y hx hy;rw[List.getElem?_take]at hx;split at hx
  case isFalse=>cases hx
  rename_i hi;rw[List.getElem?_drop]at hx;simp[hi]at hy;subst hy;have:=hr _ _ hx;simpa using this
 |false=>
  simp only[Bool.false_eq_true,if_false]at hp;have hlt:off<cs.length:=by rcases Nat.lt_or_ge off cs.length with q|q;exact q;simp[cY q]at hp
  have hs:=h1 rfl;refine⟨_,pO w hf _ _ (λn=>c.getD (L.base+(off+n)) undef) (λn hn=>by rw[Nat.add_assoc];exact hcell _ (by omega)) h1,?_⟩;simpa using hr _ _ hp
include hv
theorem YV(sz:Nat)(ag:Bool)(hf:fitK P num o (.load sz ag)=some l)(h1:op1 h k0 (.load sz ag) vs=some (v,eff)):eC P num Fb B0 ρ w O h ρv o v eff:=by
 simp only[fitK]at hf;split at hf
 case h_2=>cases hf
 rename_i t x ho;obtain⟨hg,rfl⟩:=aL hf;obtain⟨a,rfl,ha⟩:=hv.one;simp only[op1]at h1;split at h1;rename_i u;split at h1
 case isFalse=>cases h1
 rename_i hfit;obtain⟨rfl,rfl⟩:=bH h1;obtain⟨f1,f2,f3⟩:=AV.fits_cells hfit;obtain⟨b,off,m,hx,hF,hb,hm,hr⟩:=ha.of_fp;have hrun:=pO (P:=P) w hg b off m (λn hn=>hm n (by omega)) (λq=>(f3 q).1);refine .val H (cv:=if ag then .agg ((List.range sz).map m).toArray else m 0) (by simp[execOp,ho,Instr.loadAt,hx,Instr.sureAddr,hrun]) ?_;cases ag with
 |true=>
  cases v<;>simp[AV.isAgg]at f2;rename_i cs;simp only[AV.cells]at f1 hr;simp only[if_true];refine .agg _ _ (by simpa using f1) ?_;intro i x y hx hy;have hi:i<sz:=by rcases Nat.lt_or_ge i cs.length with q|q;omega;simp[cY q]at hx
  simp[hi]at hy;subst hy;exact hr i x hx
 |false=>have:=hr 0 v (by rw[(f3 rfl).2];rfl);simpa using this
 rename_i k e off;split at h1
 case h_2=>cases h1
 rename_i e' cs esz' ag' ti fz hgk;split at h1
 case isFalse=>cases h1
 rename_i he;subst he;cases hp:eY cs off sz ag with
 |none=>simp[hp]at h1
 |some u=>simp only[hp,Option.map_some,aU,bA]at h1;obtain⟨rfl,rfl⟩:=h1;obtain⟨L,hx,hL⟩:=ha.of_pt;have hs1:ag=false->sz=1:=fitT_one hg;obtain⟨cv,hr1,hr2⟩:=CM (P:=P) H hgk hL hg hp hs1;exact .val H (cv:=cv) (by simp[execOp,ho,Instr.loadAt,hx,Instr.sureAddr,hr1]) hr2
 cases h1
theorem TX(sz:Nat)(ag:Bool)(hf:fitK P num o (.store sz ag)=some l)(h1:op1 h k0 (.store sz ag) vs=some (v,eff)):eC P num Fb B0 ρ w O h ρv o v eff:=by
 simp only[fitK]at hf;split at hf
 case h_2=>cases hf
 rename_i t x y ho;obtain⟨hg,rfl⟩:=aL hf;obtain⟨a,b,rfl,ha,hb⟩:=hv.two;simp only[op1]at h1;split at h1
 case h_2=>cases h1
 rename_i k e off;split at h1
 case h_2=>cases h1
 rename_i e' cs esz' ag' ti hgk;split at h1
 case isFalse=>cases h1
 rename_i hc;obtain⟨rfl,hle,hfit,hone⟩:=hc;cases h1;obtain⟨L,hx,hL⟩:=ha.of_pt;obtain⟨L0,c,T,q1,q2,q3,q4,q5,q6,q7,q8,q9,q10⟩:=H.blk _ _ _ _ _ _ _ hgk;rw[hL]at q1;cases q1;obtain⟨f1,f2,f3⟩:=AV.fits_cells hfit;obtain⟨i,hi,hsz,hag⟩:=fitT_eq hg;have hcells:=Rv.cells_all2 hb hfit;have hclen:(ρv y).cells.size=sz:=by rw[<-f1];simpa using hcells.length.symm
 have honec:∀u∈(ρv y).cells.toList,u.oneCell'=true:=by
  intro u hu;obtain⟨j,hj⟩:=List.getElem?_of_mem hu;have hjl:j<b.cells.length:=by have:=hcells.length;rcases Nat.lt_or_ge j b.cells.length with q|q;exact q;rw[cY (by omega)]at hj;cases hj
  have:=hcells.get j b.cells[j] u (by simp[hjl]) hj;exact this.one_cell (mP hone j _ (by simp[hjl]))
 have hrun:=run_storeCells_cells (P:=P) L.b (L.base+off) (ρv y).cells.toList 0 w (by
  intro j hj;simp at hj;have:L.base+off+j<c.size:=by omega
  simp[World.cell?,q4,this]) (by
  intro j hj;simp[World.frozen?,q4]) honec
 obtain⟨c',ht,hs,hgc⟩:=kZ L.b T (ρv y).cells.toList (L.base+off) w c q4 (by simp;omega)
 obtain⟨ev,H'⟩:=H.write hgk hL ht (cs':=eF cs off b.cells) (by omega) (by rw[jA _ _ _ (by omega)];omega) (by
  intro i x hx;rw[mK _ _ _ (by omega)]at hx;rw[hgc];by_cases h1:i<off;rw[if_pos h1]at hx;obtain⟨y',hy',hr'⟩:=q7 i x hx;rw[if_neg (by omega)];exact⟨y',hy',hr'⟩;rw[if_neg h1]at hx;by_cases h2:i<off+b.cells.length;rw[if_pos h2]at hx;rw[if_pos (by simp;omega)];have hlt:i-off<(ρv y).cells.size:=by omega
  refine⟨(ρv y).cells[i-off],?_,hcells.get (i-off) _ _ hx (by simp[hlt])⟩;rw[show L.base+i-(L.base+off)=i-off by omega];simp[hlt];rw[if_neg h2]at hx;obtain⟨y',hy',hr'⟩:=q7 i x hx;rw[if_neg (by simp;omega)];exact⟨y',hy',hr'⟩)
 refine⟨.skip,undef,_,ρ,O,?_,.inr ⟨rfl,rfl⟩,ev,H',?_⟩;have hsz':(ρv y).cells.size=i.size:=by omega
 simp only[Nat.add_zero]at hrun;simp[execOp,ho,Instr.storeAt,hx,Instr.sureAddr,storeVar,eS w hi,hsz',hrun];exact .tup [] #[] rfl (by intro i x y hx;simp at hx)
omit H hv in
theorem MD{v:AV}{c:Value}{F:Nat->Prop}(hv:Rv num ρ w F v c)(hf:v.fits v.cells.length v.isAgg=true)(i:Nat)(x:AV)(hx:v.cells[i]?=some x) :
  ∃y,c.cells[i]?=some y/\Rv num ρ w F x y:=by
 have h1:=Rv.cells_all2 hv hf;have hi:i<c.cells.size:=by have:=h1.length;simp at this;rcases Nat.lt_or_ge i v.cells.length with q|q;omega;simp[cY q]at hx
 exact⟨c.cells[i],by simp[hi],h1.get i x _ hx (by simp[hi])⟩
theorem aGb(hf:fitK P num o .box=some l)(h1:op1 h k0 .box vs=some (v,eff)):eC P num Fb B0 ρ w O h ρv o v eff:=by
 simp only[fitK]at hf;split at hf
 case h_2=>cases hf
 rename_i t x ho;cases hf;obtain⟨a,rfl,ha⟩:=hv.one;simp only[op1]at h1;split at h1
 case isFalse=>cases h1
 rename_i hfit;simp only[nM,aU,bA]at h1;obtain⟨rfl,rfl⟩:=h1;have hcells:=Rv.cells_all2 ha hfit;have hlen:a.cells.length=(ρv x).cells.size:=by simpa using hcells.length
 obtain⟨ev,H'⟩:=H.new (k:=k0) (cs:=a.cells) (esz:=a.cells.length) (ag:=a.isAgg) (ti:=true) (c:=(ρv x).cells) (T:=t) (ρv x).cells.size (gJ w _) (Nat.le_refl _) (by omega)
  (λi y hy=>MD ha hfit i y hy)
 refine⟨_,.pointer (some ⟨w.heap.size,0,none⟩),_,_,_,?_,.inl rfl,ev,H',?_⟩;simp[execOp,ho,Instr.box,newVar,newRow];exact .pt _ _ _ _ (Rho.set_same _ _ _ _)
theorem TZ(zero:List AV)(ag:Bool)(hf:fitK P num o (.alloc zero ag)=some l)(h1:op1 h k0 (.alloc zero ag) vs=some (v,eff)):eC P num Fb B0 ρ w O h ρv o v eff:=by
 simp only[fitK]at hf;split at hf
 case h_2=>cases hf
 rename_i t ho;obtain⟨hg,rfl⟩:=aL hf;cases hv;simp only[op1,nM,aU,bA]at h1;obtain⟨rfl,rfl⟩:=h1;obtain⟨ti,z,hti,hzz,hfz⟩:=fitZ_eq hg;have hz:aJ (Rv num ρ w (λb=>Fb b\/O b)) zero z.cells.toList:=fitL_sound hfz;have hlen:zero.length=z.cells.size:=by simpa using hz.length
 obtain⟨ev,H'⟩:=H.new (k:=k0) (cs:=zero) (esz:=zero.length) (ag:=ag) (ti:=true) (c:=z.cells) (T:=t) z.cells.size (gJ w _) (Nat.le_refl _) (by omega)
  (λi y hy=>by
   have hi:i<z.cells.size:=by rcases Nat.lt_or_ge i zero.length with q|q;omega;simp[cY q]at hy
   exact⟨z.cells[i],by simp[hi],hz.get i y _ hy (by simp[hi])⟩)
 refine⟨_,.pointer (some ⟨w.heap.size,0,none⟩),_,_,_,?_,.inl rfl,ev,H',?_⟩;simp[execOp,ho,Instr.alloc,zeroValue,typeInfo,hti,hzz,newVar,newRow];exact .pt _ _ _ _ (Rho.set_same _ _ _ _)
end
end
section
open Go.RowKit
def eO(vs:List AV):List AV:=vs.flatMap AV.cells
theorem iQ{sz:Nat}:∀{vs:List AV},(∀(i:Nat)(v:AV),vs[i]?=some v->v.cells.length=sz)->(eO vs).length=vs.length*sz
 |[],_=>by simp[eO]
 |v::vs,h=>by have h1:=h 0 v rfl;have h2:=iQ (vs:=vs) (λi u hu=>h (i+1) u (by simpa using hu));simp only[eO,List.flatMap_cons,cO,List.length_cons]at h2 ⊢;rw[h1,h2,Nat.add_mul];omega
theorem oA{sz:Nat}:∀{vs:List AV},(∀(i:Nat)(v:AV),vs[i]?=some v->v.cells.length=sz)->∀(i j:Nat),j<sz->(eO vs)[i*sz+j]?=(vs[i]?).bind (·.cells[j]?)
 |[],_,i,j,_=>by simp[eO]
 |v::vs,h,i,j,hj=>by
  have h1:=h 0 v rfl;have ih:=oA (vs:=vs) (λi u hu=>h (i+1) u (by simpa using hu));simp only[eO,List.flatMap_cons]at ih ⊢;cases i with
  |zero=>simp[List.getElem?_append,h1,hj]
  |succ i=>rw[List.getElem?_append,if_neg (by rw[h1,Nat.add_mul];omega),h1,Nat.add_mul];rw[show i*sz+1*sz+j-sz=i*sz+j by omega,ih i j hj];simp
theorem l6{esz:Nat}{ag:Bool}:∀{es cs:List AV},aP esz ag es=some cs->cs=eO es/\(∀(i:Nat)(v:AV),es[i]?=some v->v.fits esz ag=true/\bC v.cells=true)
 |[],cs,h=>by simp[aP]at h;subst h;exact⟨rfl,by intro i v hv;simp at hv⟩
 |x::es,cs,h=>by
  simp only[aP]at h;split at h
  case isFalse=>cases h
  rename_i hx;simp only[aD]at hx;cases hu:aP esz ag es with
  |none=>simp[hu]at h
  |some r=>
   simp[hu]at h;obtain⟨h1,h2⟩:=l6 hu;subst h;refine⟨by rw[h1];simp[eO],?_⟩;intro i v hv;cases i with
   |zero=>simp at hv;subst hv;exact hx
   |succ i=>exact h2 i v (by simpa using hv)
theorem BW{a b:List AV}(ha:bC a=true)(hb:bC b=true):bC (a++b)=true:=by
 induction a with
 |nil=>simpa using hb
 |cons x r ih=>simp only[bC,aD,List.cons_append]at ha ⊢;exact⟨ha.1,ih ha.2⟩
theorem u3:∀{es:List AV},(∀(i:Nat)(v:AV),es[i]?=some v->bC v.cells=true)->bC (eO es)=true
 |[],_=>rfl
 |x::es,h=>by simp only[eO,List.flatMap_cons];exact BW (h 0 x rfl) (u3 (es:=es) (λi v hv=>h (i+1) v (by simpa using hv)))
theorem AC{sz:Nat}:∀(vs:List AV)(k:Nat)(done rest:List AV),done.length=k*sz->rest.length=vs.length*sz->(∀(i:Nat)(v:AV),vs[i]?=some v->v.fits sz v.isAgg=true) ->
  oB (done++rest) ((List.range' k vs.length).map λi=>(i*sz,sz)) vs=some (done++eO vs)
 |[],k,done,rest,hd,hr,hf=>by
  have:rest=[]:=by simpa using hr
  subst this;simp[oB,eO]
 |v::vs,k,done,rest,hd,hr,hf=>by
  simp only[List.length_cons,List.range'_succ,List.map_cons,oB];have h0:=hf 0 v rfl;obtain⟨f1,f2,f3⟩:=AV.fits_cells h0;simp only[List.length_cons,Nat.add_mul]at hr;rw[if_pos ⟨f1,by simp;omega,h0⟩];have hw:eF (done++rest) (k*sz) v.cells=(done++v.cells)++rest.drop sz:=by unfold eF;rw[<-hd,List.take_left',List.drop_append];simp[f1];rfl
  rw[hw,AC vs (k+1) (done++v.cells) (rest.drop sz) (by simp[f1,hd,Nat.add_mul]) (by simp;omega) (λi u hu=>hf (i+1) u (by simpa using hu))];simp[eO]
section
variable{P:Program}{num:Nm}{Fb:Nat->Prop}{B0:Nat}{ρ : Rho}{w:World}{O:Nat->Prop}{h:Hp}{ρv:Operand->Value}{o:Oper}
theorem wD{t e:TypeId}{esz:Nat}{ag:Bool}{F:Nat->Prop}(w:World)(hel:lM P t=some e)(hft:fitT P e esz ag=true)(hzs:((P.info? e).bind (·.zero)).any (·.cells.size==esz)=true)(hpos:esz≠0)
  (ps:Array (Nat×Operand)) (n:Nat) (hps:ps.toList.map (·.1)=List.range n) (hn:n*esz<=16777216) (vs:List AV) (hv:aJ (Rv num ρ w F) vs ((ps.toList.map (·.2)).map ρv))
  (hfit:∀(i:Nat)(v:AV),vs[i]?=some v->v.fits esz v.isAgg=true) :
  vs.length=n/\∃cells,(Instr.buildSlice t n (ps.map fun(i,x)=>(i,ρv x))).run P w = .ok (.slice (some ⟨w.heap.size,0,none⟩) n n) (w.alloc (.cells cells e))/\aJ (Rv num ρ w F) (eO vs) cells.toList:=by
 have hlen:vs.length=n:=by
  have h1:=hv.length;have h2:(ps.toList.map (·.1)).length=n:=by rw[hps];simp
  simp at h1 h2;omega
 refine⟨hlen,?_⟩;have hu:=gE hel;obtain⟨ie,hie,rfl,_⟩:=fitT_eq hft;cases hz:ie.zero with
 |none=>simp[hie,hz]at hzs
 |some z=>
  have hzsz:z.cells.size=ie.size:=by simpa[hie,hz] using hzs
  have hzip:(ps.map fun(i,x)=>(i,ρv x)).toList=(ps.toList.map (·.1)).zip ((ps.toList.map (·.2)).map ρv):=by
   rw[Array.toList_map];generalize ps.toList=q
   induction q with
   |nil=>rfl
   |cons a q ih=>simp[ih]
  by_cases h0:n=0;subst h0;have:vs=[]:=by simpa using hlen
  subst this
  have hnil:(ps.map fun(i,x)=>(i,ρv x)).toList=[]:=by rw[hzip,hps];simp
  refine⟨#[],?_,.nil⟩;simp[Instr.buildSlice,run_underlying hu,sizeOf,typeInfo,hie,newRow];simp at hnil;subst hnil;simp[Instr.fill];rw[show Array.range 0 = #[] from by simp[Array.range]];simp;have hzero:aJ (Rv num ρ w F) (List.replicate (n*ie.size) AV.top) ((Array.range (n*ie.size)).map (z.cells[· % z.cells.size]!)).toList:=
   aJ.of_get (by simp) (λi x y hx hy=>by
    rw[List.getElem?_replicate]at hx;split at hx;cases hx;exact .top _;cases hx)
  have hfl:=AC (sz:=ie.size) vs 0 [] (List.replicate (n*ie.size) AV.top) (by simp) (by simp[hlen]) hfit
  obtain⟨out,h2,h3⟩:=qC (num:=num) (ρ := ρ) (w:=w) (F:=F) ((List.range' 0 vs.length).map λi=>(i*ie.size,ie.size)) vs _ _ (ps.toList.map (·.1)) _ (λi=>some (i*ie.size,ie.size)) _ hfl
   hzero hv (by rw[hps];simp[hlen]) (by
    intro j i p hi hp;rw[hps]at hi;have hjn:j<n:=by have:=(cF.1 hi).1;simpa using this
    have hjv:j<vs.length:=by omega
    rw[List.getElem?_map,List.getElem?_range' hjv]at hp;simp[hjn]at hi;simp at hp;rw[<-hi,<-hp])
  rw[<-hzip]at h2;have hr:=run_buildSlice (P:=P) w t e n (ps.map fun(i,x)=>(i,ρv x)) out ie z hu hie hz (by omega) (by have:=Nat.mul_ne_zero h0 hpos;omega) h2;exact⟨out,hr,by simpa using h3⟩
variable(H:HpR num Fb B0 ρ w O h)
variable{k0:Nat}{l:List Operand}{vs:List AV}{v:AV}{eff:Eff}
variable(hv:aJ (Rv num ρ w (λb=>Fb b\/O b)) vs (l.map ρv))
include H hv
theorem OT(esz:Nat)(ag own:Bool)(hf:fitK P num o (.mkSl esz ag own)=some l)(h1:op1 h k0 (.mkSl esz ag own) vs=some (v,eff)):eC P num Fb B0 ρ w O h ρv o v eff:=by
 simp only[fitK]at hf;split at hf
 case h_2=>cases hf
 rename_i t n ps ho;split at hf
 case h_2=>cases hf
 rename_i e hel;obtain⟨hg,rfl⟩:=aL hf;simp only[aD,beq_iff_eq,bne_iff_ne,cK]at hg;obtain⟨⟨⟨⟨hft,hps⟩,hn⟩,hzs⟩,hpos⟩:=hg;simp only[op1]at h1;split at h1;split at h1
 case h_2=>cases h1
 rename_i cs hcs;simp only[nM,aU,bA]at h1;obtain⟨rfl,rfl⟩:=h1;obtain⟨rfl,hfits⟩:=l6 hcs;obtain⟨hlen,cells,hrun,hall⟩:=wD (P:=P) (ρv := ρv) w hel hft hzs hpos ps n hps hn vs hv (λi u hu=>by have:=(hfits i u hu).1;rwa [(AV.fits_cells this).2.1]);have hfl:(eO vs).length=vs.length*esz:=iQ (λi u hu=>(AV.fits_cells (hfits i u hu).1).1);have hsz:cells.size=n*esz:=by have:=hall.length;simp at this;rw[<-this,hfl,hlen]
 obtain⟨ev,H'⟩:=H.new (k:=k0) (cs:=eO vs) (esz:=esz) (ag:=ag) (ti:=true) (c:=cells) (T:=e) cells.size (gJ w _) (Nat.le_refl _) (by have:=hall.length;simp at this;omega)
  (λi y hy=>by
   have hi:i<cells.size:=by rcases Nat.lt_or_ge i (eO vs).length with q|q;have:=hall.length;simp at this;omega;simp[cY q]at hy
   exact⟨cells[i],by simp[hi],hall.get i y _ hy (by simp[hi])⟩)
 refine⟨_,.slice (some ⟨w.heap.size,0,none⟩) n n,_,_,_,?_,.inl rfl,ev,H',?_⟩;simp[execOp,ho,hrun];have:=Rv.rf (num:=num) (w:=w.alloc (.cells cells e)) (F:=λb=>Fb b\/(O b\/b=w.heap.size)) k0 (h.next k0) 0 vs.length vs.length vs.length _ (Rho.set_same ρ k0 (h.next k0) ⟨w.heap.size,0,cells.size,true,esz,λ_=>rfl⟩) (Nat.le_refl _) (Nat.le_refl _) (λ_=>rfl) (by simp;rw[hsz,hlen];exact Nat.le_refl _);simpa[hlen] using this;split at h1
 case isFalse=>cases h1
 rename_i hall';obtain⟨rfl,rfl⟩:=bH h1;have hfits:∀(i:Nat)(u:AV),vs[i]?=some u->u.fits esz ag=true:=by intro i u hu;exact eK.1 hall' u (List.mem_of_getElem? hu)
 obtain⟨hlen,cells,hrun,hall⟩:=wD (P:=P) (ρv := ρv) w hel hft hzs hpos ps n hps hn vs hv (λi u hu=>by have:=hfits i u hu;rwa [(AV.fits_cells this).2.1]);have hfl:(eO vs).length=vs.length*esz:=iQ (λi u hu=>(AV.fits_cells (hfits i u hu)).1);have hsz:cells.size=n*esz:=by have:=hall.length;simp at this;rw[<-this,hfl,hlen]
 obtain⟨ev,H'⟩:=H.pushed (gJ w (.cells cells e));refine⟨_,.slice (some ⟨w.heap.size,0,none⟩) n n,_,ρ,O,by simp[execOp,ho,hrun],.inl rfl,ev,H',?_⟩
 have key:=Rv.sl (num:=num) (ρ := ρ) (w:=w.alloc (.cells cells e)) (F:=λb=>Fb b\/O b) vs true w.heap.size 0 n esz (λi=>cells.getD i undef) (by omega) (λ_=>hlen.symm)
  (λ_=>⟨λq=>by
    rcases q with q|q;have:=H.fbl _ q;have:=H.le;omega;have:=(H.own _ q).2;omega,by simp⟩)
  (λi u hu=>(AV.fits_cells (hfits i u hu)).1)
  (by
   intro i hi;simp only[Nat.zero_add];have hlt:i<cells.size:=by rw[hsz];rw[hlen]at hi;exact hi
   simp[hlt])
  (by
   intro i u j x hu hx;have hj:j<esz:=by rcases Nat.lt_or_ge j u.cells.length with q|q;have:=(AV.fits_cells (hfits i u hu)).1;omega;simp[cY q]at hx
   have hg:=oA (sz:=esz) (vs:=vs) (λi u hu=>(AV.fits_cells (hfits i u hu)).1) i j hj;rw[hu]at hg;simp only[Option.bind_some,hx]at hg;have hlt:i*esz+j<cells.size:=by rcases Nat.lt_or_ge (i*esz+j) (eO vs).length with q|q;rw[hsz,<-hlen,<-hfl];exact q;rw[cY q]at hg;cases hg
   have hr:=hall.get (i*esz+j) x cells[i*esz+j] hg (by simp[hlt]);have:=hr.evo ev;simpa[hlt] using this)
 rw[hlen]at key;exact key none (λ_=>rfl)
end
end
end Go.Tev
