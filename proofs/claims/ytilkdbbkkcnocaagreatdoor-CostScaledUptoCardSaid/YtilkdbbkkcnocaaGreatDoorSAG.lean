import Derived.Test.YtilkdbbkkcnocaaGreatDoorSAF
import Derived.RangeFuncLeaves
import Derived.RangeFuncRecord
set_option linter.all false
namespace Go.Tev
section
open Go.RowKit
def kL(h h2:Hp)(rd:List Nat):Prop:=∀q∈rd,h2.get q=h.get q
theorem jI{h h2:Hp}{k:Nat}(hq:h2.get k=h.get k):h2.next k=h.next k:=by simp[Hp.next,hq]
theorem mD{h h2:Hp}{k:Nat}{o:Ob}{f:Nat->AV}{v:AV}{rd:List Nat}{pa:List Ent}(h1:nM h k o f=some (v,.pat rd pa))(ha:kL h h2 rd):nM h2 k o f=some (v,.pat rd pa):=by simp only[nM,aU,bA,Eff.pat.injEq]at h1 ⊢;obtain⟨rfl,rfl,rfl⟩:=h1;have:=jI (ha k (by simp));rw[this];exact⟨rfl,rfl,rfl⟩
theorem u6{h h2:Hp}{esz:Nat}{ag:Bool}{y:AV}{r:List AV×Nat×List Nat}(h1:bM h esz ag y=some r)(ha:kL h h2 r.2.2):bM h2 esz ag y=some r:=by
 unfold bM at h1 ⊢;split at h1;exact h1;exact h1;rename_i k e off len cap;split at h1
 case h_2=>cases h1
 rename_i e' cs _ _ _ _ hg;split at h1
 case isFalse=>cases h1
 rename_i hc;cases h1;have:=ha k (by simp);simp only[this,hg];rw[if_pos hc];cases h1
theorem mF{h h2:Hp}{f f2:AV->Option (AV×List Nat)}:∀{l:List AV}{l':List AV}{s:List Nat},mapS f l=some (l',s)->kL h h2 s ->
  (∀x y s',f x=some (y,s')->kL h h2 s'->f2 x=some (y,s'))->mapS f2 l=some (l',s)
 |[],l',s,h1,_,_=>by simpa[mapS] using h1
 |x::r,l',s,h1,ha,hf=>by unfold mapS at h1 ⊢;split at h1;cases h1;rename_i y s1 hy;split at h1;cases h1;rename_i r' s2 hr;cases h1;rw[hf x y s1 hy (λq hq=>ha q (List.mem_append_left _ hq))];simp only;rw[mF hr (λq hq=>ha q (List.mem_append_right _ hq)) hf]
theorem jE{h h2:Hp}:∀(d:Nat)(v t:AV)(s:List Nat),snap d h v=some (t,s)->kL h h2 s->snap d h2 v=some (t,s)
 |0,v,t,s,h1,_=>by simp[snap]at h1
 |d+1,v,t,s,h1,ha=>by
  have ih:=fun(s:List Nat)(ha:kL h h2 s)(l l':List AV)(hm:mapS (snap d h) l=some (l',s))=>mF hm ha (λx y s'=>jE d x y s');unfold snap at h1 ⊢;split at h1;rename_i ht;rw[if_pos ht];exact h1;rename_i ht;rw[if_neg ht];split at h1;rename_i cs;cases hm:mapS (snap d h) cs with
  |none=>simp[hm]at h1
  |some r=>obtain⟨l,s0⟩:=r;simp only[hm,Option.map_some,aU,bA]at h1;obtain⟨rfl,rfl⟩:=h1;simp only[ih _ ha _ _ hm,Option.map_some]
  rename_i cs;cases hm:mapS (snap d h) cs with
  |none=>simp[hm]at h1
  |some r=>obtain⟨l,s0⟩:=r;simp only[hm,Option.map_some,aU,bA]at h1;obtain⟨rfl,rfl⟩:=h1;simp only[ih _ ha _ _ hm,Option.map_some]
  rename_i nl cs cl;cases hm:mapS (snap d h) cs with
  |none=>simp[hm]at h1
  |some r=>obtain⟨l,s0⟩:=r;simp only[hm,Option.map_some,aU,bA]at h1;obtain⟨rfl,rfl⟩:=h1;simp only[ih _ ha _ _ hm,Option.map_some]
  rename_i v';cases hm:snap d h v' with
  |none=>simp[hm]at h1
  |some r=>obtain⟨l,s0⟩:=r;simp only[hm,Option.map_some,aU,bA]at h1;obtain⟨rfl,rfl⟩:=h1;simp only[jE d _ _ _ hm ha,Option.map_some]
  rename_i t' v';cases hm:snap d h v' with
  |none=>simp[hm]at h1
  |some r=>obtain⟨l,s0⟩:=r;simp only[hm,Option.map_some,aU,bA]at h1;obtain⟨rfl,rfl⟩:=h1;simp only[jE d _ _ _ hm ha,Option.map_some]
  rename_i t' v';cases hm:snap d h v' with
  |none=>simp[hm]at h1
  |some r=>obtain⟨l,s0⟩:=r;simp only[hm,Option.map_some,aU,bA]at h1;obtain⟨rfl,rfl⟩:=h1;simp only[jE d _ _ _ hm ha,Option.map_some]
  rename_i f cs;cases hm:mapS (snap d h) cs with
  |none=>simp[hm]at h1
  |some r=>obtain⟨l,s0⟩:=r;simp only[hm,Option.map_some,aU,bA]at h1;obtain⟨rfl,rfl⟩:=h1;simp only[ih _ ha _ _ hm,Option.map_some]
  rename_i k e off len cap;split at h1
  case h_2=>cases h1
  rename_i e' cs esz ag ti fz hg;split at h1
  case isFalse=>cases h1
  rename_i he;split at h1
  case h_2=>cases h1
  rename_i es hch;cases hm:mapS (snap d h) es with
  |none=>simp[hm]at h1
  |some r=>obtain⟨l,s0⟩:=r;simp only[hm,Option.map_some,aU,bA]at h1;obtain⟨rfl,rfl⟩:=h1;have hk:=ha k (by simp);simp only[hk,hg];rw[if_pos he];simp only[hch];rw[ih s0 (λq hq=>ha q (bT _ hq)) _ _ hm];rfl
  rename_i k e off;split at h1
  case h_2=>cases h1
  rename_i e' cs esz ag ti fz hg;split at h1
  case isFalse=>cases h1
  rename_i he;split at h1
  case h_2=>cases h1
  rename_i l s0 hm;have hks:s=k::s0:=by split at h1;cases h1;rfl;split at h1;split at h1;cases h1;cases h1;rfl;cases h1
  subst hks;have hk:=ha k (by simp);simp only[hk,hg];rw[if_pos he];rw[ih s0 (λq hq=>ha q (bT _ hq)) _ _ hm];exact h1;cases h1
theorem nO{h h2:Hp}{q:Nat}(hq:h2.get q=h.get q):∀(pa:List Ent),(aM h2 pa).get q=(aM h pa).get q
 |[]=>hq
 |x::r=>by simp only[aM];exact nO (by simp only[aB,hq]) r
theorem jC:∀(S:List Nat)(h h2:Hp),kL h h2 S->aI h2 S=aI h S
 |[],_,_,_=>rfl
 |k::r,h,h2,ha=>by have hk:=ha k (by simp);have hr:kL h h2 r:=λq hq=>ha q (bT _ hq);unfold aI;rw[hk];split;rename_i e cs esz ag ti hg;rw[jC r (h.put k e (.blk cs esz ag ti true)) (h2.put k e (.blk cs esz ag ti true)) (λq hq=>by simp only[aB,hr q hq])];exact jC r _ _ hr
theorem BU{h h2:Hp}{k:Nat}{th:Bool}{r:AV}(hq:h2.get k=h.get k):hU h2 k th r=hU h k th r:=by unfold hU;rw[jI hq]
theorem nD{call:aW}{kb s f:Nat}{th im:Bool}{h h2:Hp}{vs:List AV}{v:AV}{rd:List Nat}{pa:List Ent}(h1:jT call kb s h f th im vs=some (v,.pat rd pa))(ha:kL h h2 rd) :
  jT call kb s h2 f th im vs=some (v,.pat rd pa):=by
 unfold jT at h1 ⊢;split at h1;rename_i ts keys hm;cases im with
 |true=>simp at hm
 |false=>
  simp only[Bool.false_eq_true,if_false]at hm;split at h1
  case h_2=>cases h1
  rename_i r hr;split at h1
  case h_2=>cases h1
  rename_i v' pa' hrec;cases h1;have hks:kL h h2 keys:=λq hq=>ha q (bT _ hq);have h0:h2.get (kb+s)=h.get (kb+s):=ha _ (by simp);have hm2:=mF hm hks (λx y s'=>jE depth x y s');simp only[Bool.false_eq_true,if_false,hm2,hr,BU h0,hrec,jC keys h h2 hks]
 split at h1;cases h1;cases h1
theorem BJ{h h2:Hp}{k0 esz:Nat}{ag:Bool}{bytes:Nat}{x:AV}{src:List AV}{n:Nat}{r0 rd:List Nat}{v:AV}{pa:List Ent}(h1:lG h k0 esz ag bytes x src n r0=some (v,.pat rd pa))(ha:kL h h2 rd) :
  lG h2 k0 esz ag bytes x src n r0=some (v,.pat rd pa)/\∀q∈r0,q∈rd:=by
 unfold lG at h1 ⊢;split at h1;split at h1;rename_i hn;rw[if_pos hn];cases h1;exact⟨by first|trivial|rfl,λq hq=>hq⟩;rename_i hn;rw[if_neg hn];split at h1
 case isFalse=>cases h1
 rename_i hc;rw[if_pos hc];split at h1
 case h_2=>cases h1
 rename_i cs hcs;cases h1;have:=jI (ha k0 (by simp));simp only[hcs,this];exact⟨by first|trivial|rfl,λq hq=>bT _ hq⟩;rename_i k e off len cap;split at h1
 case h_2=>cases h1
 rename_i e' cs esz' ag' ti fz hg;split at h1
 case isFalse=>cases h1
 rename_i hc;split at h1;rename_i hn;cases h1;simp only[ha k (by simp),hg];rw[if_pos hc,if_pos hn];exact⟨by first|trivial|rfl,λq hq=>bT _ hq⟩;rename_i hn;split at h1;rename_i hle;split at h1;cases h1;rename_i hfz;cases h1;simp only[ha k (by simp),hg];rw[if_pos hc,if_neg hn,if_pos hle,if_neg hfz];exact⟨by first|trivial|rfl,λq hq=>bT _ hq⟩;rename_i hle;split at h1;rename_i hb;split at h1;rename_i hti;cases h1;have hnx:=jI (ha k0 (by simp));simp only[ha k (by simp),hg,hnx];rw[if_pos hc,if_neg hn,if_neg hle,if_pos hb,if_pos hti];exact⟨by first|trivial|rfl,λq hq=>bT _ (bT _ hq)⟩;rename_i hti;split at h1;cases h1;rename_i hfz;cases h1;have hnx:=jI (ha k0 (by simp));simp only[ha k (by simp),hg,hnx];rw[if_pos hc,if_neg hn,if_neg hle,if_pos hb,if_neg hti,if_neg hfz];exact⟨by first|trivial|rfl,λq hq=>bT _ (bT _ hq)⟩;rename_i hb;split at h1;rename_i hb2;cases h1;simp only[ha k (by simp),hg];rw[if_pos hc,if_neg hn,if_neg hle,if_neg hb,if_pos hb2];exact⟨by first|trivial|rfl,λq hq=>bT _ hq⟩;cases h1;cases h1
theorem EP{h h2:Hp}{esz:Nat}{x:AV}{lo hi mx:Option Int}{rd:List Nat}{v:AV}{pa:List Ent}(h1:kQ h esz x lo hi mx=some (v,.pat rd pa))(ha:kL h h2 rd) :
  kQ h2 esz x lo hi mx=some (v,.pat rd pa):=by
 unfold kQ at h1 ⊢;split at h1;exact h1;rename_i k e off len cap;split at h1
 case h_2=>cases h1
 rename_i e' cs esz' ag' ti fz hg;simp only at h1;split at h1;rename_i hc;cases h1;simp only[ha k (by simp),hg];rw[if_pos hc];rename_i hc;split at h1;rename_i hc2;cases h1;simp only[ha k (by simp),hg];rw[if_neg hc,if_pos hc2];cases h1;cases h1
theorem RC{P:Program}{num:Nm}{o:Oper}{l:List Operand}{h h2:Hp}{k0:Nat}{k:K}(hf:fitK P num o k=some l){vs:List AV}{rd:List Nat}{v:AV}{pa:List Ent}
  (h1:op1 h k0 k vs=some (v,.pat rd pa)) (ha:kL h h2 rd):op1 h2 k0 k vs=some (v,.pat rd pa):=by
 have any:op1 h2 k0 k vs=op1 h k0 k vs->op1 h2 k0 k vs=some (v,.pat rd pa):=λq=>q.trans h1;cases k with
 |mov=>rcases vs with _|⟨x,_|⟨y,_|⟨z,_|⟨u,r⟩⟩⟩⟩<;>exact any rfl
 |pick=>rcases vs with _|⟨x,_|⟨y,_|⟨z,_|⟨u,r⟩⟩⟩⟩<;>exact any rfl
 |build z p=>rcases vs with _|⟨x,_|⟨y,_|⟨z,_|⟨u,r⟩⟩⟩⟩<;>exact any rfl
 |nilc=>rcases vs with _|⟨x,_|⟨y,_|⟨z,_|⟨u,r⟩⟩⟩⟩<;>exact any rfl
 |bin op=>rcases vs with _|⟨x,_|⟨y,_|⟨z,_|⟨u,r⟩⟩⟩⟩<;>exact any rfl
 |beq n=>rcases vs with _|⟨x,_|⟨y,_|⟨z,_|⟨u,r⟩⟩⟩⟩<;>exact any rfl
 |eqn q n=>rcases vs with _|⟨x,_|⟨y,_|⟨z,_|⟨u,r⟩⟩⟩⟩<;>exact any rfl
 |eqs n q=>rcases vs with _|⟨x,_|⟨y,_|⟨z,_|⟨u,r⟩⟩⟩⟩<;>exact any rfl
 |un op=>rcases vs with _|⟨x,_|⟨y,_|⟨z,_|⟨u,r⟩⟩⟩⟩<;>exact any rfl
 |cvi k=>rcases vs with _|⟨x,_|⟨y,_|⟨z,_|⟨u,r⟩⟩⟩⟩<;>exact any rfl
 |cvs=>rcases vs with _|⟨x,_|⟨y,_|⟨z,_|⟨u,r⟩⟩⟩⟩<;>exact any rfl
 |s2b=>rcases vs with _|⟨x,_|⟨y,_|⟨z,_|⟨u,r⟩⟩⟩⟩<;>exact any rfl
 |fld a b c=>rcases vs with _|⟨x,_|⟨y,_|⟨z,_|⟨u,r⟩⟩⟩⟩<;>exact any rfl
 |fad a b c=>rcases vs with _|⟨x,_|⟨y,_|⟨z,_|⟨u,r⟩⟩⟩⟩<;>exact any rfl
 |iad a b c=>rcases vs with _|⟨x,_|⟨y,_|⟨z,_|⟨u,r⟩⟩⟩⟩<;>exact any rfl
 |bx q=>rcases vs with _|⟨x,_|⟨y,_|⟨z,_|⟨u,r⟩⟩⟩⟩<;>exact any rfl
 |ixs=>rcases vs with _|⟨x,_|⟨y,_|⟨z,_|⟨u,r⟩⟩⟩⟩<;>exact any rfl
 |ixa a b c=>rcases vs with _|⟨x,_|⟨y,_|⟨z,_|⟨u,r⟩⟩⟩⟩<;>exact any rfl
 |sls a b=>rcases vs with _|⟨x,_|⟨y,_|⟨z,_|⟨u,r⟩⟩⟩⟩<;>exact any rfl
 |lenc n=>rcases vs with _|⟨x,_|⟨y,_|⟨z,_|⟨u,r⟩⟩⟩⟩<;>exact any rfl
 |mn=>rcases vs with _|⟨x,_|⟨y,_|⟨z,_|⟨u,r⟩⟩⟩⟩<;>exact any rfl
 |mx=>rcases vs with _|⟨x,_|⟨y,_|⟨z,_|⟨u,r⟩⟩⟩⟩<;>exact any rfl
 |ext i=>rcases vs with _|⟨x,_|⟨y,_|⟨z,_|⟨u,r⟩⟩⟩⟩<;>exact any rfl
 |mki=>rcases vs with _|⟨x,_|⟨y,_|⟨z,_|⟨u,r⟩⟩⟩⟩<;>exact any rfl
 |mkf f=>rcases vs with _|⟨x,_|⟨y,_|⟨z,_|⟨u,r⟩⟩⟩⟩<;>exact any rfl
 |call=>simp[op1]at h1
 |callv=>simp[op1]at h1
 |calle f=>simp[op1]at h1
 |callr f=>simp[op1]at h1
 |callvr=>simp[op1]at h1
 |mkM t=>rcases vs with _|⟨x,_|⟨y,_|⟨z,_|⟨u,r⟩⟩⟩⟩<;>exact any rfl
 |mkT t=>rcases vs with _|⟨x,_|⟨y,_|⟨z,_|⟨u,r⟩⟩⟩⟩<;>exact any rfl
 |tas a b c d=>rcases vs with _|⟨x,_|⟨y,_|⟨z,_|⟨u,r⟩⟩⟩⟩<;>exact any rfl
 |inv=>simp[op1]at h1
 |bad=>simp[op1]at h1
 |apz a b c d=>
  clear any
  match vs,h1 with
  |[x,y],h1=>
   simp only[op1]at h1 ⊢;split at h1
   case h_2=>cases h1
   split at h1
   case isFalse=>cases h1
   rename_i hc;rw[if_pos hc];exact(BJ h1 ha).1
 |clr a b=>
  clear any
  match vs,h1 with
  |[x],h1=>
   simp only[op1]at h1 ⊢;split at h1;exact h1;rename_i k e off len _;split at h1
   case h_2=>cases h1
   rename_i e' cs esz' ag' ti hg;split at h1
   case isFalse=>cases h1
   rename_i hc;cases h1;rw[ha k (by simp)];simp only[hg];rw[if_pos hc];cases h1
 |mkm=>
  clear any
  match vs,h1 with
  |[],h1=>simp only[op1]at h1 ⊢;exact mD h1 ha
 |mlk q z ok=>
  clear any
  match vs,h1 with
  |[m,x],h1=>
   cases m with
   |nilm=>exact h1
   |mp k e=>
    simp only[op1]at h1 ⊢;cases hg:h.get k with
    |none=>simp[hg]at h1
    |some eo=>
     obtain⟨e',ob⟩:=eo;have hk:k∈rd:=by
      simp only[hg]at h1;split at h1
      ·split at h1
       ·split at h1<;>first|(cases h1;done)|(simp only[aU,bA,Eff.pat.injEq]at h1;obtain⟨_,rfl,_⟩:=h1;simp)
       cases h1
      cases h1
     rw[ha k hk,hg];simpa only[hg] using h1
   |_=>simp[op1]at h1
 |mup q=>
  clear any
  match vs,h1 with
  |[m,x,y],h1=>
   cases m with
   |mp k e=>
    simp only[op1]at h1 ⊢;cases hg:h.get k with
    |none=>simp[hg]at h1
    |some eo=>
     obtain⟨e',ob⟩:=eo;have hk:k∈rd:=by
      simp only[hg]at h1;split at h1
      ·split at h1
       ·split at h1<;>first|(cases h1;done)|(simp only[aU,bA,Eff.pat.injEq]at h1;obtain⟨_,rfl,_⟩:=h1;simp)
       cases h1
      cases h1
     rw[ha k hk,hg];simpa only[hg] using h1
   |_=>simp[op1]at h1
 |mdel q=>
  clear any
  match vs,h1 with
  |[m,x],h1=>
   cases m with
   |nilm=>exact h1
   |mp k e=>
    simp only[op1]at h1 ⊢;cases hg:h.get k with
    |none=>simp[hg]at h1
    |some eo=>
     obtain⟨e',ob⟩:=eo;have hk:k∈rd:=by
      simp only[hg]at h1;split at h1
      ·split at h1
       ·split at h1<;>first|(cases h1;done)|(simp only[aU,bA,Eff.pat.injEq]at h1;obtain⟨_,rfl,_⟩:=h1;simp)
       cases h1
      cases h1
     rw[ha k hk,hg];simpa only[hg] using h1
   |_=>simp[op1]at h1
 |men q z=>
  clear any
  match vs,h1 with
  |[m,x],h1=>
   cases m with
   |mp k e=>
    simp only[op1]at h1 ⊢;cases hg:h.get k with
    |none=>simp[hg]at h1
    |some eo=>
     obtain⟨e',ob⟩:=eo;have hk:k∈rd:=by
      simp only[hg]at h1;split at h1
      ·split at h1
       ·split at h1
        ·split at h1<;>first|(cases h1;done)|(simp only[aU,bA,Eff.pat.injEq]at h1;obtain⟨_,rfl,_⟩:=h1;simp)
        simp only[aU,bA,Eff.pat.injEq]at h1;obtain⟨_,rfl,_⟩:=h1;simp;cases h1
       cases h1
      cases h1
     rw[ha k hk,hg];simpa only[hg] using h1
   |_=>simp[op1]at h1
 |mes=>
  clear any
  match vs,h1 with
  |[m,s,x],h1=>
   cases m with
   |mp k e=>
    cases s with
    |int q n=>
     simp only[op1]at h1 ⊢;cases hg:h.get k with
     |none=>simp[hg]at h1
     |some eo=>
      obtain⟨e',ob⟩:=eo;have hk:k∈rd:=by
       simp only[hg]at h1;split at h1
       ·split at h1
        ·split at h1<;>first|(cases h1;done)|(simp only[aU,bA,Eff.pat.injEq]at h1;obtain⟨_,rfl,_⟩:=h1;simp)
        cases h1
       cases h1
      rw[ha k hk,hg];simpa only[hg] using h1
    |_=>simp[op1]at h1
   |_=>simp[op1]at h1
 |rng=>
  clear any
  match vs,h1 with
  |[m],h1=>
   cases m with
   |mp k e=>
    simp only[op1]at h1 ⊢;cases hg:h.get k with
    |none=>simp[hg]at h1
    |some eo=>
     obtain⟨e',ob⟩:=eo;have hk:k0∈rd/\k∈rd:=by simp only[hg]at h1;split at h1;split at h1;simp only[aU,bA,Eff.pat.injEq]at h1;obtain⟨_,rfl,_⟩:=h1;simp;cases h1;cases h1
     rw[ha k hk.2,hg,jI (ha k0 hk.1)];simpa only[hg] using h1
   |_=>simp[op1]at h1
 |ent=>
  clear any
  match vs,h1 with
  |[m],h1=>
   cases m with
   |pt k e off=>
    simp only[op1]at h1 ⊢;split at h1
    case h_2=>cases h1
    rename_i e' mk me since seen last hg;split at h1
    case isFalse=>cases h1
    rename_i hc;split at h1
    case h_2=>cases h1
    rename_i s e2 es bs ck hs hgm;split at h1
    case isFalse=>cases h1
    rename_i hc2;split at h1
    case h_2=>cases h1
    rename_i a u hfb;simp only[aU,bA,Eff.pat.injEq]at h1;obtain⟨rfl,rfl,rfl⟩:=h1;rw[ha k (by simp),hg];simp only;rw[if_pos hc,hs,ha mk (by simp),hgm];simp only;rw[if_pos hc2,hfb]
   |_=>simp[op1]at h1
 |box=>
  clear any
  match vs,h1 with
  |[x],h1=>
   simp only[op1]at h1 ⊢;split at h1
   case isFalse=>cases h1
   rename_i hc;rw[if_pos hc];exact mD h1 ha
 |alloc z a=>
  clear any
  match vs,h1 with
  |[],h1=>simp only[op1]at h1 ⊢;exact mD h1 ha
 |mkSl a b c=>
  have e1:∀h0:Hp,op1 h0 k0 (.mkSl a b c) vs=if c=true then (match aP a b vs with
   |some cs=>nM h0 k0 (.blk cs a b true false) (λe => .rf k0 e 0 vs.length vs.length)
   |none=>none) else if (vs.all λv=>v.fits a b)=true then val (.sl false vs true) else none:=by
   intro h0;rcases vs with _|⟨x,_|⟨y,_|⟨z,_|⟨u,r⟩⟩⟩⟩<;>rfl
  rw[e1]at h1 ⊢;cases c with
  |true=>
   simp only[if_true]at h1 ⊢;cases hu:aP a b vs with
   |none=>simp[hu]at h1
   |some cs=>simp only[hu]at h1 ⊢;exact mD h1 ha
  |false=>exact h1
 |mkZ a b=>
  have e1:∀h0:Hp,op1 h0 k0 (.mkZ a b) vs=match mapS (snap depth h0) vs with
   |some (ts,keys)=>if ts.all λv=>v.fits a b then some (.sl false ts true,.pat keys (aI h0 keys)) else none
   |none=>none:=by
   intro h0;rcases vs with _|⟨x,_|⟨y,_|⟨z,_|⟨u,r⟩⟩⟩⟩<;>rfl
  rw[e1]at h1 ⊢;split at h1
  case h_2=>cases h1
  rename_i ts keys hm;split at h1
  case isFalse=>cases h1
  rename_i hall;simp only[aU,bA,Eff.pat.injEq]at h1;obtain⟨rfl,rfl,rfl⟩:=h1;rw[mF hm ha (λx y s'=>jE depth x y s')];simp only[hall,if_true,jC keys h h2 ha]
 |frz=>
  have e1:∀h0:Hp,op1 h0 k0 .frz vs=match mapS (snap depth h0) vs with
   |some ([t],keys)=>some (t,.pat keys (aI h0 keys))
   |_=>none:=by
   intro h0;rcases vs with _|⟨x,_|⟨y,_|⟨z,_|⟨u,r⟩⟩⟩⟩<;>rfl
  rw[e1]at h1 ⊢;split at h1
  case h_2=>cases h1
  rename_i t keys hm;simp only[aU,bA,Eff.pat.injEq]at h1;obtain⟨rfl,rfl,rfl⟩:=h1;rw[mF hm ha (λx y s'=>jE depth x y s')];simp only[jC keys h h2 ha]
 |mvk=>
  clear any
  match vs,h1 with
  |[x],h1=>
   have e1:∀h0:Hp,op1 h0 k0 .mvk [x]=zN h0 k0 x:=λ_=>rfl;rw[e1]at h1 ⊢;unfold zN at h1 ⊢;split at h1;rename_i k e off len cap;split at h1
   case h_2=>cases h1
   rename_i e' cs esz ag ti hg;split at h1
   case isFalse=>cases h1
   rename_i hc;simp only[aU,bA,Eff.pat.injEq]at h1;obtain⟨rfl,rfl,rfl⟩:=h1;simp only[ha k (by simp),hg,jI (ha k0 (by simp))];rw[if_pos hc];exact h1
  |[],h1=>cases h1
  |_::_::_,h1=>cases h1
 |load a b=>
  clear any
  match vs,h1 with
  |[x],h1=>
   simp only[op1]at h1 ⊢;split at h1;exact h1;rename_i k e off;split at h1
   case h_2=>cases h1
   rename_i e' cs _ _ _ _ hg;split at h1
   case isFalse=>cases h1
   rename_i hc;cases hp:eY cs off a b with
   |none=>simp[hp]at h1
   |some u=>simp only[hp,Option.map_some,aU,bA,Eff.pat.injEq]at h1;obtain⟨rfl,rfl,rfl⟩:=h1;simp only[ha k (by simp),hg];rw[if_pos hc,hp];rfl
   cases h1
 |store a b=>
  clear any
  match vs,h1 with
  |[x,y],h1=>
   simp only[op1]at h1 ⊢;split at h1;rename_i k e off;split at h1
   case h_2=>cases h1
   rename_i e' cs _ _ _ hg;split at h1
   case isFalse=>cases h1
   rename_i hc;cases h1;simp only[ha k (by simp),hg];rw[if_pos hc];cases h1
 |b2s=>
  clear any
  match vs,h1 with
  |[x],h1=>
   have e1:∀h0:Hp,(∀s,x ≠ .str s)->op1 h0 k0 .b2s [x]=match bM h0 1 false x with
    |some (cs,_,rd)=>match nE cs with
     |some bs=>some (.str bs,.pat rd [])
     |none=>none
    |none=>none:=by
    intro h0 hx;cases x<;>first|rfl|exact absurd rfl (hx _)
   by_cases hx:∀s,x ≠ .str s;rw[e1 _ hx]at h1 ⊢;split at h1
   case h_2=>cases h1
   rename_i cs n rd' hs;split at h1
   case h_2=>cases h1
   rename_i bs hb;cases h1;rw[u6 hs ha];simp only[hb];cases x<;>first|exact h1|exact absurd (λs q=>by cases q) hx
 |slc a b c d=>
  clear any
  match vs,h1 with
  |x::r,h1=>
   simp only[op1]at h1 ⊢;cases q1:jG b r with
   |none=>simp[q1]at h1
   |some p=>
    simp only[q1]at h1 ⊢;cases q2:jG c p.2 with
    |none=>simp[q2]at h1
    |some p2=>
     simp only[q2]at h1 ⊢;cases q3:jG d p2.2 with
     |none=>simp[q3]at h1
     |some p3=>
      obtain⟨m,r3⟩:=p3;cases r3 with
      |nil=>simp only[q3]at h1 ⊢;exact EP h1 ha
      |cons=>simp[q3]at h1
 |sla a b c d=>
  clear any
  match vs,h1 with
  |x::r,h1=>
   cases x with
   |pt k e off=>
    simp only[op1]at h1 ⊢;cases q1:jG c r with
    |none=>simp[q1]at h1
    |some p=>
     simp only[q1]at h1 ⊢;cases q2:jG d p.2 with
     |none=>simp[q2]at h1
     |some p2=>
      obtain⟨m,r3⟩:=p2;cases r3 with
      |cons=>simp[q2]at h1
      |nil=>
       simp only[q2]at h1 ⊢;split at h1
       case h_2=>cases h1
       rename_i e' cs esz' _ _ hg;split at h1
       case isFalse=>cases h1
       rename_i hc;cases h1;simp only[ha k (by simp),hg];rw[if_pos hc]
   |_=>simp[op1]at h1
 |mks a b c d=>
  clear any
  match vs,h1 with
  |[x,y],h1=>
   simp only[op1]at h1 ⊢;split at h1
   case h_2=>cases h1
   split at h1
   case isFalse=>cases h1
   rename_i hc;rw[if_pos hc];exact mD h1 ha
 |len q=>
  rcases vs with _|⟨x,_|⟨y,r⟩⟩
  simp[op1]at h1;rcases q with _|_|_|q;exact any rfl;exact any rfl;clear any;cases x with
  |mp k e=>
   simp only[op1]at h1 ⊢;split at h1
   case h_2=>cases h1
   rename_i e' es hg;split at h1
   case isFalse=>cases h1
   rename_i hc;cases h1;simp only[ha k (by simp),hg];rw[if_pos hc]
  |_=>exact h1
  simp[op1]at h1;simp[op1]at h1
 |cap=>
  clear any
  match vs,h1 with
  |[x],h1=>
   simp only[op1]at h1 ⊢;split at h1;exact h1;rename_i k e _ _ cap;split at h1
   case h_2=>cases h1
   rename_i e' _ _ _ _ hg;split at h1
   case isFalse=>cases h1
   rename_i hc;cases h1;simp only[ha k (by simp),hg];rw[if_pos hc];cases h1
 |app a b c=>
  clear any
  match vs,h1 with
  |[x,y],h1=>
   simp only[op1]at h1 ⊢;split at h1
   case h_2=>cases h1
   rename_i cs n rd' hs;obtain⟨q1,q2⟩:=BJ h1 ha;rw[u6 hs (λq hq=>ha q (q2 q hq))];exact q1
 |cpy a b=>
  clear any
  match vs,h1 with
  |[x,y],h1=>
   simp only[op1]at h1 ⊢;split at h1
   case h_2=>cases h1
   rename_i k e off len _;split at h1
   case h_2=>cases h1
   rename_i e' cs esz' ag' ti new n rd' hg hs;split at h1
   case isFalse=>cases h1
   rename_i hc;cases h1;rw[u6 hs (λq hq=>ha q (bT _ hq)),ha k (by simp)];simp only[hg];rw[if_pos hc]
theorem yP{call:aW}{f:Nat}{vs:List AV}{h h2:Hp}:∀{n b:Nat}{r:AV}{rd:List Nat}{pa:List Ent},mS call h f vs n b=some (r,rd,pa)->kL h h2 rd->mS call h2 f vs n b=some (r,rd,pa)
 |0,_,_,_,_,h1,_=>by simp[mS]at h1
 |n+1,b,r,rd,pa,h1,ha=>by
  unfold mS at h1 ⊢;cases hc:call f vs b [] with
  |none=>simp[hc]at h1
  |some q=>
   obtain⟨r0,h0⟩:=q;simp only[hc]at h1 ⊢
   have key:∀S:List Nat,(∀k∈h0.map (·.k),k∈S)->kL h h2 S->(h0.all λx=>(h2.get x.k).isNone)=(h0.all λx=>(h.get x.k).isNone):=by intro S hS hA;rw[Bool.eq_iff_iff];simp only[eK];constructor;intro q x hx;rw[<-hA x.k (hS _ (List.mem_map_of_mem hx))];exact q x hx;intro q x hx;rw[hA x.k (hS _ (List.mem_map_of_mem hx))];exact q x hx
   cases hall:(gL h0&&h0.all λx=>(h.get x.k).isNone) with
   |true=>rw[hall]at h1;simp only[if_true,aU,bA]at h1;obtain⟨rfl,rfl,rfl⟩:=h1;rw[key _ (λ_ h=>h) ha,hall];simp
   |false=>
    rw[hall]at h1;simp only[Bool.false_eq_true,if_false]at h1;split at h1
    case h_2=>cases h1
    rename_i r' rd' pa' ht;simp only[aU,bA]at h1;obtain⟨rfl,rfl,rfl⟩:=h1;rw[key _ (λk hk=>List.mem_append_left _ hk) ha,hall,yP ht (λq hq=>ha q (List.mem_append_right _ hq))];simp
theorem HI{call:aW}{kb s f:Nat}{h h2:Hp}{vs:List AV}{v:AV}{rd:List Nat}{pa:List Ent}(h1:kG call kb s h f vs=some (v,.pat rd pa))(ha:kL h h2 rd):kG call kb s h2 f vs=some (v,.pat rd pa):=by
 unfold kG at h1 ⊢;split at h1
 case isFalse=>cases h1
 rename_i ht;rw[if_pos ht];split at h1
 case h_2=>cases h1
 rename_i r rd' pa' hq;simp only[aU,bA,Eff.pat.injEq]at h1;obtain⟨rfl,rfl,rfl⟩:=h1;rw[yP hq ha]
theorem BE{call:aW}{kb s f:Nat}{h:Hp}{vs:List AV}(v:AV)(rd:List Nat)(pa:List Ent):¬jK call kb s h f vs=some (v,.pat rd pa):=by intro h1;unfold jK at h1;split at h1;dsimp only at h1;split at h1<;>cases h1;cases h1
theorem RA{P:Program}{num:Nm}{o:Oper}{l:List Operand}{call:aW}{kb:Nat}{r:R}(hf:fitK P num o r.k=some l){h h2:Hp}{vs:List AV}{v:AV}{rd:List Nat}{pa:List Ent}
  (h1:opR call kb r h vs=some (v,.pat rd pa)) (ha:kL h h2 rd):opR call kb r h2 vs=some (v,.pat rd pa):=by
 unfold opR at h1 ⊢;split at h1;exact nD h1 ha;exact HI h1 ha;exact absurd h1 (BE _ _ _);split at h1;exact absurd h1 (BE _ _ _);cases h1;split at h1
 case h_4=>cases h1
 case h_3=>exact nD h1 ha
 case h_2=>split at h1<;>cases h1
 exact nD h1 ha;split at h1
 case h_2=>cases h1
 split at h1
 case h_2=>cases h1
 exact nD h1 ha;rw[FE]at h1 ⊢;exact RC hf h1 ha
end
section
open Go.RowKit
structure Tr where
 d:Option Nat
 v:AV
 e:Eff
def Tr.app(x:Tr)(s:St):St:=⟨eH s.env x.d x.v,x.e.app s.hp⟩
def eI(b:Nat->Bool):Nat->List Tr->St->St
 |_,[],s=>s
 |i,x::l,s=>eI b (i+1) l (if b i then x.app s else s)
def yS(gl:Nat->Option AV)(call:aW)(kb:Nat)(r:R)(st:St):Option (AV×Eff):=
 match wanted st.env r.gd with
 |none=>none
 |some false=>some (.tup [],.pat [] [])
 |some true=>opR call kb r st.hp (r.xs.map (X.ev gl st.env))
theorem HW(gl:Nat->Option AV)(call:aW)(kb:Nat)(r:R)(st:St) :
  iB gl call kb r st=(yS gl call kb r st).map λp=>((Tr.mk r.d p.1 p.2).app st,p.2):=by
 unfold iB yS;rcases wanted st.env r.gd with _|_|_;rfl;rfl;simp only;cases opR call kb r st.hp (r.xs.map (X.ev gl st.env))<;>rfl
theorem m6{b c:Nat->Bool}:∀{tr:List Tr}{i:Nat}{s:St},(∀j,j<tr.length->b (i+j)=c (i+j))->eI b i tr s=eI c i tr s
 |[],_,_,_=>rfl
 |x::l,i,s,h=>by
  simp only[eI];have h0:=h 0 (by simp);rw[Nat.add_zero]at h0;rw[h0]
  exact m6 (λj hj=>by
   have:=h (j+1) (by simp;omega);rwa [Nat.add_comm j 1,<-Nat.add_assoc]at this)
theorem sW{b:Nat->Bool}:∀{tr:List Tr}{i:Nat}{s:St},(∀j,j<tr.length->b (i+j)=false)->eI b i tr s=s
 |[],_,_,_=>rfl
 |x::l,i,s,h=>by
  simp only[eI];have h0:=h 0 (by simp);rw[Nat.add_zero]at h0;rw[h0];simp only[Bool.false_eq_true,if_false]
  exact sW (λj hj=>by
   have:=h (j+1) (by simp;omega);rwa [Nat.add_comm j 1,<-Nat.add_assoc]at this)
theorem II{gl:Nat->Option AV}{call:aW}{kb:Nat}:∀{rs:List R}{i0:Nat}{st st':St}{es:List Eff},gZ gl call kb rs st=some (st',es) ->
  ∃tr:List Tr,tr.length=rs.length/\(∀i:Nat,(tr[i]?).map Tr.e=es[i]?)/\eI (λ_=>true) i0 tr st=st' /\
   ∀(i:Nat)(r:R)(x:Tr),rs[i]?=some r->tr[i]?=some x->x.d=r.d/\yS gl call kb r (eI (λj=>decide (j<i0+i)) i0 tr st)=some (x.v,x.e)
 |[],i0,st,st',es,h=>by simp[gZ]at h;obtain⟨rfl,rfl⟩:=h;exact⟨[],rfl,by simp,rfl,by simp⟩
 |r::rs,i0,st,st',es,h=>by
  unfold gZ at h;split at h
  case h_2=>cases h
  rename_i st1 e hs
  try simp only at h
  cases hr:gZ gl call kb rs st1 with
  |none=>simp[hr]at h
  |some p=>
   obtain⟨st2,es2⟩:=p;simp[hr]at h;obtain⟨rfl,rfl⟩:=h;rw[HW]at hs;cases hv:yS gl call kb r st with
   |none=>simp[hv]at hs
   |some p=>
    obtain⟨v,e'⟩:=p;simp[hv]at hs;obtain⟨hs1,rfl⟩:=hs;obtain⟨tr,t1,t2,t3,t4⟩:=II (i0:=i0+1) hr;refine⟨⟨r.d,v,e'⟩::tr,by simp[t1],?_,?_,?_⟩;intro i;cases i with
    |zero=>rfl
    |succ i=>simpa using t2 i
    simp only[eI,if_true,hs1];exact t3;intro i r' x hr' hx;cases i with
    |zero=>simp at hr' hx;subst hr' hx;refine⟨rfl,?_⟩;have:eI (λj=>decide (j<i0+0)) i0 (⟨r.d,v,e'⟩::tr) st=st:=sW (λj _=>by simp);rw[this];exact hv
    |succ i=>obtain⟨q1,q2⟩:=t4 i r' x (by simpa using hr') (by simpa using hx);refine⟨q1,?_⟩;rw[<-q2];simp only[eI];rw[if_pos (by simp),hs1];congr 1;exact m6 (λj _=>by simp;omega)
structure Ag(uses:List Nat)(e:Eff)(s s2:St):Prop where
 len:s.env.length=s2.env.length
 env:∀t∈uses,gB s2.env t=gB s.env t
 hp:match e with
  |.pat rd _=>kL s.hp s2.hp rd
  |.whole _=>s2.hp=s.hp
  |.all _=>s2.hp=s.hp
theorem pZ(env:List AV)(d:Option Nat)(v:AV):(eH env d v).length=env.length:=by cases d<;>simp[eH]
theorem vI(env:List AV)(d:Option Nat)(v:AV)(t:Nat):gB (eH env d v) t=if d=some t/\t<env.length then v else gB env t:=by
 cases d with
 |none=>simp[eH]
 |some d=>
  simp only[eH,gB,List.getElem?_set];by_cases h:d=t;subst h;by_cases h2:d<env.length;simp[h2];simp[h2];have:¬(some d=some t/\t<env.length):=by simp[h]
  rw[if_neg h,if_neg this]
theorem Ag.refl(uses:List Nat)(e:Eff)(s:St):Ag uses e s s:=⟨rfl,λ_ _=>rfl,by cases e<;>simp[kL]⟩
theorem Ag.both{uses:List Nat}{e:Eff}{s s2:St}(h:Ag uses e s s2)(x:Tr):Ag uses e (x.app s) (x.app s2):=by
 refine⟨by simp[Tr.app,pZ,h.len],?_,?_⟩;intro t ht;simp only[Tr.app,vI,h.env t ht,h.len];have h3:=h.hp;cases e with
 |pat rd pa=>
  intro q hq;simp only at h3;have:=h3 q hq;simp only[Tr.app];cases x.e with
  |pat r2 p2=>exact nO this p2
  |whole h'=>rfl
  |all p2=>exact nO this p2
 |whole h'=>simp only at h3;simp only[Tr.app];rw[h3]
 |all pa=>simp only at h3;simp only[Tr.app];rw[h3]
def EA:Eff->Eff->Prop
 |.pat r1 p1,.pat r2 p2=>(∀k∈p1.map (·.k),k ∉ r2/\k ∉ p2.map (·.k))/\(∀k∈p2.map (·.k),k ∉ r1/\k ∉ p1.map (·.k))
 |.pat r p,.whole _|.whole _,.pat r p=>r=[]/\p=[]
 |.whole _,.whole _=>False
 |.pat r p,.all pa|.all pa,.pat r p=>p=[]/\∀k∈pa.map (·.k),k ∉ r
 |.whole _,.all _|.all _,.whole _|.all _,.all _=>False
theorem EA.symm{x y:Eff}(h:EA x y):EA y x:=by cases x<;>cases y<;>simp only[EA]at h ⊢ <;> first|exact⟨h.2,h.1⟩|exact h
theorem mL{q:Nat}:∀(pa:List Ent)(h:Hp),q ∉ pa.map (·.k)->(aM h pa).get q=h.get q
 |[],_,_=>rfl
 |x::r,h,hq=>by simp only[List.map_cons,List.mem_cons,not_or]at hq;simp only[aM];rw[mL r _ hq.2,aB,if_neg (λe=>hq.1 e.symm)]
theorem Ag.onlyL{uses:List Nat}{e:Eff}{s s2:St}(h:Ag uses e s s2)(x:Tr)(hd:∀d,x.d=some d->d ∉ uses)(he:EA e x.e):Ag uses e (x.app s) s2:=by
 refine⟨by simp[Tr.app,pZ,h.len],?_,?_⟩;intro t ht;simp only[Tr.app,vI];rw[if_neg (λq=>hd t q.1 ht)];exact h.env t ht;have h3:=h.hp;cases e with
 |pat rd pa=>
  intro q hq;have:=h3 q hq;simp only[Tr.app];cases hx:x.e with
  |pat r2 p2=>simp only[hx,EA]at he;simp only[Eff.app];rw[mL _ _ (λhm=>(he.2 q hm).1 hq)];exact this
  |whole h'=>simp only[hx,EA]at he;rw[he.1]at hq;cases hq
  |all p2=>simp only[hx,EA]at he;simp only[Eff.app];rw[mL _ _ (λhm=>he.2 q hm hq)];exact this
 |whole h'=>
  simp only at h3;simp only[Tr.app];cases hx:x.e with
  |pat r2 p2=>simp only[hx,EA]at he;rw[he.2];exact h3
  |whole h2=>simp[hx,EA]at he
  |all p2=>simp[hx,EA]at he
 |all pa=>
  simp only at h3;simp only[Tr.app];cases hx:x.e with
  |pat r2 p2=>simp only[hx,EA]at he;rw[he.1];exact h3
  |whole h2=>simp[hx,EA]at he
  |all p2=>simp[hx,EA]at he
theorem Ag.symm{uses:List Nat}{e:Eff}{s s2:St}(h:Ag uses e s s2):Ag uses e s2 s:=by
 refine⟨h.len.symm,λt ht=>(h.env t ht).symm,?_⟩;have h3:=h.hp;cases e with
 |pat rd pa=>exact λq hq=>(h3 q hq).symm
 |whole h'=>exact h3.symm
 |all pa=>exact h3.symm
theorem O8{A:St->St->Prop}{b c:Nat->Bool}:∀{tr:List Tr}{i0:Nat}{s s2:St},A s s2 ->
  (∀(j:Nat)(x:Tr),tr[j]?=some x->∀s s2,A s s2->(b (i0+j)=true->c (i0+j)=true->A (x.app s) (x.app s2)) /\
   (b (i0+j)=true->c (i0+j)=false->A (x.app s) s2)/\(b (i0+j)=false->c (i0+j)=true->A s (x.app s2))) ->
  A (eI b i0 tr s) (eI c i0 tr s2)
 |[],_,_,_,h,_=>h
 |x::l,i0,s,s2,h,hx=>by
  simp only[eI];have h0:=hx 0 x rfl s s2 h;rw[Nat.add_zero]at h0
  refine O8 ?_ (λj y hy s s2 hA=>by
   have:=hx (j+1) y (by simpa using hy) s s2 hA;rwa [Nat.add_comm j 1,<-Nat.add_assoc]at this)
  cases hb:b i0<;>cases hc:c i0<;>simp;exact h;exact h0.2.2 hb hc;exact h0.2.1 hb hc;exact h0.1 hb hc
theorem wI:∀(pa pb:List Ent)(h:Hp),(∀k∈pa.map (·.k),k ∉ pb.map (·.k))->aM (aM h pa) pb=aM (aM h pb) pa
 |[],_,_,_=>rfl
 |x::r,pb,h,hd=>by
  simp only[aM];rw[wI r pb _ (λk hk=>hd k (by simp at hk ⊢;exact .inr hk))];congr 1;have hx:x.k ∉ pb.map (·.k):=hd x.k (by simp);clear hd
  induction pb generalizing h with
  |nil=>rfl
  |cons y pb ih=>simp only[List.map_cons,List.mem_cons,not_or]at hx;simp only[aM];rw[TS _ _ _ _ _ _ _ hx.1,ih _ hx.2]
theorem Tr.comm{x y:Tr}(hd:∀d,x.d=some d->y.d≠some d)(he:EA x.e y.e)(s:St):x.app (y.app s)=y.app (x.app s):=by
 simp only[Tr.app,St.mk.injEq];constructor;cases hx:x.d with
 |none=>rfl
 |some d=>
  cases hy:y.d with
  |none=>rfl
  |some d'=>have:d≠d':=λe=>hd d hx (by rw[hy,e]);simp only[eH];exact List.set_comm _ _ (Ne.symm this)
 cases hx:x.e with
 |pat r1 p1=>
  cases hy:y.e with
  |pat r2 p2=>simp only[hx,hy,EA]at he;simp only[Eff.app];exact wI p2 p1 _ (λk hk=>(he.2 k hk).2)
  |whole h'=>simp only[hx,hy,EA]at he;rw[he.2];rfl
  |all p2=>simp only[hx,hy,EA]at he;rw[he.1];rfl
 |whole h'=>
  cases hy:y.e with
  |pat r2 p2=>simp only[hx,hy,EA]at he;rw[he.2];rfl
  |whole h2=>simp[hx,hy,EA]at he
  |all p2=>simp[hx,hy,EA]at he
 |all p1=>
  cases hy:y.e with
  |pat r2 p2=>simp only[hx,hy,EA]at he;rw[he.1];rfl
  |whole h2=>simp[hx,hy,EA]at he
  |all p2=>simp[hx,hy,EA]at he
theorem C9{b:Nat->Bool}{x:Tr}:∀{tr:List Tr}{i0:Nat}{s:St},(∀(j:Nat)(y:Tr),tr[j]?=some y->b (i0+j)=true->∀s,y.app (x.app s)=x.app (y.app s)) ->
  eI b i0 tr (x.app s)=x.app (eI b i0 tr s)
 |[],_,_,_=>rfl
 |y::l,i0,s,h=>by
  simp only[eI]
  have hr:∀s',eI b (i0+1) l (x.app s')=x.app (eI b (i0+1) l s'):=λs'=>C9 (λj z hz hb s=>by
   have:=h (j+1) z (by simpa using hz);rw[Nat.add_comm j 1,<-Nat.add_assoc]at this;exact this hb s)
  cases hb:b i0 with
  |false=>simp only[Bool.false_eq_true,if_false];exact hr s
  |true=>simp only[if_true];rw[h 0 y rfl (by simpa using hb) s];exact hr _
theorem JJ{b c:Nat->Bool}{x:Tr}:∀{tr:List Tr}{i0 i:Nat}{s:St},tr[i]?=some x->b (i0+i)=false->c (i0+i)=true->(∀j,j≠i0+i->c j=b j) ->
  (∀(j:Nat)(y:Tr),tr[j]?=some y->i<j->b (i0+j)=true->∀s,y.app (x.app s)=x.app (y.app s))->eI c i0 tr s=x.app (eI b i0 tr s)
 |[],_,_,_,h,_,_,_,_=>by simp at h
 |y::l,i0,i,s,h,hb,hc,hj,hcm=>by
  simp only[eI];cases i with
  |zero=>
   simp at h;subst h;rw[Nat.add_zero]at hb hc;rw[hb,hc];simp only[if_true,Bool.false_eq_true,if_false];have e:eI c (i0+1) l (y.app s)=eI b (i0+1) l (y.app s):=m6 (λj _=>hj _ (by omega));rw[e]
   exact C9 (λj z hz hb s=>by
    have:=hcm (j+1) z (by simpa using hz) (by omega);rw[Nat.add_comm j 1,<-Nat.add_assoc]at this;exact this hb s)
  |succ i=>rw[hj i0 (by omega)];refine JJ (by simpa using h) (by rw[Nat.add_assoc,Nat.add_comm 1 i];exact hb) (by rw[Nat.add_assoc,Nat.add_comm 1 i];exact hc) (λj q=>hj j (by omega)) ?_;intro j z hz hij hb s;have:=hcm (j+1) z (by simpa using hz) (by omega);rw[Nat.add_comm j 1,<-Nat.add_assoc]at this;exact this hb s
theorem HV{P:Program}{num:Nm}{o:Oper}{l:List Operand}{gl:Nat->Option AV}{call:aW}{kb:Nat}{r:R}(hf:fitK P num o r.k=some l){s s2:St}{v:AV}{e:Eff}
  (h1:yS gl call kb r s=some (v,e)) (ha:Ag r.uses e s s2):yS gl call kb r s2=some (v,e):=by
 have hxs:r.xs.map (X.ev gl s2.env)=r.xs.map (X.ev gl s.env):=by
  apply List.map_congr_left;intro x hx;cases x with
  |t n=>simp only[X.ev];refine ha.env n ?_;unfold R.uses;exact List.mem_append_left _ (List.mem_filterMap.2 ⟨_,hx,rfl⟩)
  |_=>rfl
 have hw:wanted s2.env r.gd=wanted s.env r.gd:=by
  unfold wanted;cases hg:r.gd with
  |none=>rfl
  |some p=>obtain⟨t,b⟩:=p;simp only;rw[ha.env t (by unfold R.uses;rw[hg];exact List.mem_append_right _ (by simp))]
 unfold yS at h1 ⊢;rw[hw,hxs];split at h1;cases h1;exact h1;have h3:=ha.hp;cases e with
 |pat rd pa=>exact RA hf h1 h3
 |whole h'=>simp only at h3;rw[h3];exact h1
 |all pa=>simp only at h3;rw[h3];exact h1
end
section
open Go.RowKit
def aLG(rs:List R)(o:Oper):Nat:=
 o.after.toList.foldl (λs e=>if Region.binds .any e then s ||| 2 ^ e.on ||| ((rs[e.on]?).map R.bef).getD 0 else s) 0
def fitBef(rs:List R)(i:Nat)(o:Oper)(r:R):Bool:=
 r.bef==aLG rs o&&o.after.toList.all λe => !Region.binds .any e||decide (e.on<i)
theorem EB{rs:List R}{m:Nat}:∀{es:List Edge}{s:Nat},
  (es.foldl (λs e=>if Region.binds .any e then s ||| 2 ^ e.on ||| ((rs[e.on]?).map R.bef).getD 0 else s) s).testBit m=true ->
  s.testBit m=true\/∃e∈es,Region.binds .any e=true/\(e.on=m\/∃r,rs[e.on]?=some r/\r.bef.testBit m=true)
 |[],s,h => .inl h
 |e::es,s,h=>by
  simp only[List.foldl_cons]at h;rcases EB h with h|⟨e',h1,h2,h3⟩
  split at h;rename_i hb;simp only[Nat.testBit_or,Bool.or_eq_true,Nat.testBit_two_pow,cK]at h;rcases h with (h|h)|h;exact .inl h;exact .inr ⟨e,by simp,hb,.inl h⟩;cases hr:rs[e.on]? with
  |none=>simp[hr]at h
  |some r=>exact .inr ⟨e,by simp,hb,.inr ⟨r,hr,by simpa[hr] using h⟩⟩
  exact .inl h;exact .inr ⟨e',bT _ h1,h2,h3⟩
theorem rC{a b:List Nat}(h:nQ a b=true):∀k∈a,k ∉ b:=by intro k hk hb;simp only[nQ,eK,fY]at h;have:=h k hk;simp[hb]at this
theorem Eff.apart_spec{x y:Eff}(h:x.apart y=true):EA x y:=by unfold Eff.apart at h;split at h;simp only[aD]at h;obtain⟨h1,h2⟩:=h;have h1:=rC h1;have h2:=rC h2;refine⟨λk hk=>?_,λk hk=>⟨h2 k hk,λhk1=>h1 k hk1 (List.mem_append_right _ hk)⟩⟩;have:=h1 k hk;simp only[jW,not_or]at this;exact this;exact⟨rfl,rfl⟩;exact⟨rfl,rfl⟩;exact⟨rfl,rC h⟩;exact⟨rfl,rC h⟩;cases h
theorem R.apart_spec{x y:R}(h:x.apart y=true):(∀d,x.d=some d->d ∉ y.uses/\y.d≠some d)/\(∀d,y.d=some d->d ∉ x.uses):=by refine⟨λd hd=>?_,λd hd=>?_⟩<;>simp[R.apart,hd]at h;exact⟨h.1.1,h.1.2⟩;exact h.2
theorem r7{i:Nat}{x:R}{e:Eff}:∀{rs:List R}{es:List Eff},dC i x e rs es=true->∀(b:Nat)(r:R)(f:Eff),rs[b]?=some r->es[b]?=some f ->
  r.bef.testBit i=true\/(x.apart r=true/\e.apart f=true)
 |[],_,_,b,r,f,h1,_=>by simp at h1
 |_::_,[],_,b,r,f,_,h2=>by simp at h2
 |r0::rs,f0::es,h,b,r,f,h1,h2=>by
  simp only[dC,aD,Bool.or_eq_true]at h;cases b with
  |zero=>simp at h1 h2;subst h1 h2;exact h.1
  |succ b=>exact r7 h.2 b r f (by simpa using h1) (by simpa using h2)
theorem uZ:∀{rs:List R}{es:List Eff}{i0:Nat},cW i0 rs es=true->∀(a b:Nat)(ra rb:R)(ea eb:Eff),a<b->rs[a]?=some ra->rs[b]?=some rb->es[a]?=some ea->es[b]?=some eb ->
  rb.bef.testBit (i0+a)=true\/(ra.apart rb=true/\ea.apart eb=true)
 |[],_,_,_,a,b,ra,rb,ea,eb,_,h1,_,_,_=>by simp at h1
 |_::_,[],_,_,a,b,ra,rb,ea,eb,_,_,_,h3,_=>by simp at h3
 |r0::rs,f0::es,i0,h,a,b,ra,rb,ea,eb,hab,h1,h2,h3,h4=>by
  simp only[cW,aD]at h;cases b with
  |zero=>omega
  |succ b=>
   cases a with
   |zero=>simp at h1 h3;subst h1 h3;exact r7 h.1 b rb eb (by simpa using h2) (by simpa using h4)
   |succ a=>have:=uZ h.2 a b ra rb ea eb (by omega) (by simpa using h1) (by simpa using h2) (by simpa using h3) (by simpa using h4);rwa [Nat.add_comm a 1,<-Nat.add_assoc]
theorem JY{p q:Nat->Bool}:∀{l:List Nat},(∀x∈l,q x=true->p x=true)->(∃x∈l,p x=true/\q x=false)->l.countP q<l.countP p
 |[],_,h=>by obtain⟨x,hx,_⟩:=h;cases hx
 |y::l,h1,h2=>by have hr:∀x∈l,q x=true->p x=true:=λx hx=>h1 x (bT _ hx);have hle:l.countP q<=l.countP p:=List.countP_mono_left hr;obtain⟨x,hx,hp,hq⟩:=h2;simp only[List.countP_cons];have hy:=h1 y (by simp);rcases List.mem_cons.1 hx with rfl|hx;simp[hp,hq];omega;have:=JY hr ⟨x,hx,hp,hq⟩;cases hqy:q y<;>cases hpy:p y<;>simp[hqy,hpy]at hy ⊢ <;> omega
section
variable{P:Program}{num:Nm}{gl:Nat->Option AV}{gnum:Nat->Nat}{call:aW}{Fb:Nat->Prop}{B0:Nat}{ρ0:Rho}{w0:World}{O0:Nat->Prop}
def nU(n:Nat)(L:Array Bool):Nat:=(List.range n).countP λi => !L.getD i false
theorem vD{ops:Array Oper}{L:Array Bool}(hL:L.size=ops.size){i:Nat}:i∈Region.ready .any ops L ↔
  L.getD i false=false/\∃o,ops[i]?=some o/\∀e∈o.after,Region.binds .any e=true->L.getD e.on false=true:=by
 unfold Region.ready;simp only[List.mem_filter,List.mem_range,aD,fY];have hd:∀i,i<ops.size->L.getD i true=L.getD i false:=by
  intro i hi;have:i<L.size:=by omega
  simp[this]
 constructor;rintro⟨h1,h2,h3⟩;have hi:ops[i]?=some ops[i]:=by simp[h1]
 rw[hi]at h3;simp only[Option.map_some,Option.getD_some,Array.all_eq_true_iff_forall_mem,Bool.or_eq_true,fY]at h3;refine⟨by rw[<-hd i h1];exact h2,ops[i],hi,?_⟩;intro e he hb;rcases h3 e he with h|h;rw[h]at hb;cases hb;exact h;rintro⟨h1,o,ho,h3⟩;have hi:i<ops.size:=(lZ.1 ho).1;refine⟨hi,by rw[hd i hi];exact h1,?_⟩;rw[ho];simp only[Option.map_some,Option.getD_some,Array.all_eq_true_iff_forall_mem,Bool.or_eq_true,fY];intro e he;cases hb:Region.binds .any e with
 |false=>exact .inl rfl
 |true=>exact .inr (h3 e he hb)
theorem MY{ro:Option Nat}(hc:lW P num gl gnum call){kb:Nat}{ops:Array Oper}{rs:List R}{st st':St}{es:List Eff}{Q:Exit->Act->World->Prop}(hlen:rs.length=ops.size)
  (hfit:∀(i:Nat)(o:Oper)(r:R),ops[i]?=some o->rs[i]?=some r->fitR P num gnum ops o r=true/\fitBef rs i o r=true)
  (hT:gZ gl call kb rs st=some (st',es)) (hA:cW 0 rs es=true)
  (hK:∀a' w',gH num gl gnum Fb B0 ρ0 w0 O0 st' a' w'->Q .normal a' w') {a:Act} {w:World} (hG:gH num gl gnum Fb B0 ρ0 w0 O0 st a w) :
  wpAnyIn (FW ro) 0 P .any ops Q ops.size (Array.replicate ops.size false) a w:=by
 obtain⟨tr,t1,t2,t3,t4⟩:=II (i0:=0) hT;have hrs:∀i,i<ops.size->∃o r x,ops[i]?=some o/\rs[i]?=some r/\tr[i]?=some x/\es[i]?=some x.e:=by
  intro i hi;have h1:i<rs.length:=by omega
  have h2:i<tr.length:=by omega
  refine⟨ops[i],rs[i],tr[i],by simp[hi],by simp[h1],by simp[h2],?_⟩;rw[<-t2 i];simp[h2]
 have hap:∀(i j:Nat)(ri rj:R)(xi xj:Tr),i<j->rs[i]?=some ri->rs[j]?=some rj->tr[i]?=some xi->tr[j]?=some xj ->
   rj.bef.testBit i=true\/((∀d,xi.d=some d->d ∉ rj.uses/\xj.d≠some d)/\(∀d,xj.d=some d->d ∉ ri.uses)/\EA xi.e xj.e):=by
  intro i j ri rj xi xj hij h1 h2 h3 h4;have e1:es[i]?=some xi.e:=by rw[<-t2 i,h3];rfl
  have e2:es[j]?=some xj.e:=by rw[<-t2 j,h4];rfl
  rcases uZ hA i j ri rj _ _ hij h1 h2 e1 e2 with h|⟨h,h'⟩
  left;simpa using h;right;obtain⟨p1,p2⟩:=R.apart_spec h;have d1:=(t4 i ri xi h1 h3).1;have d2:=(t4 j rj xj h2 h4).1;rw[d1,d2];exact⟨p1,p2,Eff.apart_spec h'⟩
 have main:∀(fuel:Nat)(L:Array Bool)(a:Act)(w:World),L.size=ops.size ->
   (∀(j:Nat)(r:R),L.getD j false=true->rs[j]?=some r->∀m,r.bef.testBit m=true->L.getD m false=true) ->
   nU ops.size L<=fuel->gH num gl gnum Fb B0 ρ0 w0 O0 (eI (λi=>L.getD i false) 0 tr st) a w->wpAnyIn (FW ro) 0 P .any ops Q fuel L a w:=by
  have hall:∀L:Array Bool,L.size=ops.size->Region.ready .any ops L=[]->∀i,i<ops.size->L.getD i false=true:=by
   intro L hL hr i
   induction i using Nat.strongRecOn with
   |ind i ih=>
    intro hi;cases hb:L.getD i false with
    |true=>rfl
    |false=>
     exfalso;obtain⟨o,r,x,h1,h2,_,_⟩:=hrs i hi;have hf:=(hfit i o r h1 h2).2;simp only[fitBef,aD,eK,Bool.or_eq_true,fY,cK]at hf
     have:i∈Region.ready .any ops L:=(vD hL).2 ⟨hb,o,h1,λe he hbi=>by
      rcases hf.2 e (by simpa using he) with h|h;rw[h]at hbi;cases hbi;exact ih e.on h (by omega)⟩
     rw[hr]at this;cases this
  have hend:∀(L:Array Bool)(a:Act)(w:World),L.size=ops.size->(∀i,i<ops.size->L.getD i false=true)->gH num gl gnum Fb B0 ρ0 w0 O0 (eI (λi=>L.getD i false) 0 tr st) a w->Q .normal a w:=by
   intro L a w hL h hG
   have e:eI (λi=>L.getD i false) 0 tr st=eI (λ_=>true) 0 tr st:=m6 (λj hj=>by
    rw[Nat.zero_add];exact h j (by omega))
   rw[e,t3]at hG;exact hK _ _ hG
  intro fuel
  induction fuel with
  |zero=>
   intro L a w hL _ hu hG;have hal:∀i,i<ops.size->L.getD i false=true:=by
    intro i hi;have h0:nU ops.size L=0:=by omega
    unfold nU at h0;rw[List.countP_eq_zero]at h0;have:=h0 i (by simp[hi]);simpa using this
   refine⟨?_,hend L a w hL hal hG⟩;rw[List.eq_nil_iff_forall_not_mem];intro i hi;obtain⟨h1,o,h2,_⟩:=(vD hL).1 hi;have:=hal i (lZ.1 h2).1;rw[this]at h1;cases h1
  |succ fuel ih=>
   intro L a w hL hcl hu hG;refine⟨λhr=>hend L a w hL (hall L hL hr) hG,?_⟩;intro i hir;obtain⟨hLi,o,ho,hbe⟩:=(vD hL).1 hir;have hi:i<ops.size:=(lZ.1 ho).1;obtain⟨o',r,x,h1,h2,h3,h4⟩:=hrs i hi;rw[ho]at h1;cases h1;obtain⟨hf1,hf2⟩:=hfit i o r ho h2;have hbl:∀m,r.bef.testBit m=true->L.getD m false=true:=by
    intro m hm;simp only[fitBef,aD,beq_iff_eq]at hf2;rw[hf2.1]at hm;rcases EB hm with h|⟨e,he,hb,h⟩
    simp at h;have hon:=hbe e (by simpa using he) hb;rcases h with rfl|⟨r',hr',hm'⟩
    exact hon;exact hcl e.on r' hon hr' m hm'
   obtain⟨hd,hv⟩:=t4 i r x h2 h3;have hfk:∃l,fitK P num o r.k=some l:=by unfold fitR at hf1;simp only[aD]at hf1;have:=hf1.1.2;split at this;exact⟨_,by assumption⟩;cases this
   obtain⟨l,hfk⟩:=hfk
   have hag:Ag r.uses x.e (eI (λj=>decide (j<0+i)) 0 tr st) (eI (λj=>L.getD j false) 0 tr st):=by
    refine O8 (Ag.refl _ _ _) ?_;intro j y hy s s2 hA;refine⟨λ_ _=>hA.both y,?_,?_⟩;intro hb hcf;simp only[Nat.zero_add,cK]at hb hcf;have hj:j<ops.size:=by omega
    obtain⟨_,rj,_,_,hrj,_,_⟩:=hrs j hj;rcases hap j i rj r y x hb hrj h2 hy h3 with h|⟨p1,p2,p3⟩
    rw[hbl j h]at hcf;cases hcf;exact hA.onlyL y (λd q=>(p1 d q).1) p3.symm;intro hb hcf;simp only[Nat.zero_add,nH]at hb hcf;have hj:j<ops.size:=by have:=(cF.1 hy).1;omega
    obtain⟨_,rj,_,_,hrj,_,_⟩:=hrs j hj;have hne:i≠j:=by intro q;subst q;rw[hLi]at hcf;cases hcf
    rcases hap i j r rj x y (by omega) h2 hrj h3 hy with h|⟨p1,p2,p3⟩
    have:=hcl j rj hcf hrj i h;rw[hLi]at this;cases this;exact(hA.symm.onlyL y p2 p3).symm
   have hs:=HV hfk hv hag
   have hstep:iB gl call kb r (eI (λj=>L.getD j false) 0 tr st)=some (x.app (eI (λj=>L.getD j false) 0 tr st),x.e):=by rw[HW,hs];simp only[Option.map_some,<-hd]
   have hget:∀j,(L.setIfInBounds i true).getD j false=if j=i then true else L.getD j false:=by
    intro j;have:i<L.size:=by omega
    simp only[Array.getD_eq_getD_getElem?,Array.getElem?_setIfInBounds];by_cases q:i=j;subst q;simp[this];have q':¬j=i:=λe=>q e.symm;rw[if_neg q,if_neg q']
   refine sF hc ho hf1 hG hstep ?_;intro a' w' hG';refine ih _ a' w' (by simp[hL]) ?_ ?_ ?_;intro j rj hj hrj m hm;rw[hget]at hj ⊢;split;rfl;split at hj;rename_i q;subst q;rw[h2]at hrj;cases hrj;exact hbl m hm;exact hcl j rj hj hrj m hm;have:nU ops.size (L.setIfInBounds i true)<nU ops.size L:=by refine JY ?_ ⟨i,by simp[hi],by simp[hLi],by simp[hget]⟩;intro y _ hy;rw[hget]at hy;split at hy;simp at hy;exact hy
   omega
   have e:eI (λj=>(L.setIfInBounds i true).getD j false) 0 tr st=x.app (eI (λj=>L.getD j false) 0 tr st):=by
    refine JJ (i:=i) h3 (by simpa using hLi) (by rw[Nat.zero_add];simp[hget]) ?_ ?_;intro j hj;rw[hget,if_neg (by omega)];intro j y hy hij hb s;rw[Nat.zero_add]at hb;have hj:j<ops.size:=by have:=(cF.1 hy).1;omega
    obtain⟨_,rj,_,_,hrj,_,_⟩:=hrs j hj;rcases hap i j r rj x y hij h2 hrj h3 hy with h|⟨p1,p2,p3⟩
    have:=hcl j rj hb hrj i h;rw[hLi]at this;cases this;exact(Tr.comm (λd q=>(p1 d q).2) p3 s).symm
   rw[e];exact hG'
 refine main ops.size _ a w (by simp) ?_ ?_ ?_;intro j r hj;simp[Array.getElem?_replicate]at hj;split at hj<;>simp at hj;unfold nU;refine Nat.le_trans List.countP_le_length ?_;simp
 have e:eI (λi=>(Array.replicate ops.size false).getD i false) 0 tr st=st:=sW (λj _=>by
  simp[Array.getElem?_replicate];split<;>rfl)
 rw[e];exact hG
end
end
section
open Go.RowKit
theorem Rv.world{num:Nm}{ρ : Rho}{w w':World}{F:Nat->Prop}{v:AV}{c:Value}(h:Rv num ρ w F v c)(hc:∀b off,w'.cell? ⟨b,off,none⟩=w.cell? ⟨b,off,none⟩)(hs:w.heap.size<=w'.heap.size) :
  Rv num ρ w' F v c:=by
 induction h with
 |top c=>exact .top c
 |bool b=>exact .bool b
 |int k n=>exact .int k n
 |str s=>exact .str s
 |nilp=>exact .nilp
 |nilm=>exact .nilm
 |nilf=>exact .nilf
 |nili=>exact .nili
 |agg cs vs hl _ ih=>exact .agg cs vs hl ih
 |tup cs vs hl _ ih=>exact .tup cs vs hl ih
 |nsl cl=>exact .nsl cl
 |sl es cl b off cap sz c hc' hcl hF hz hm _ sp hsp ih=>exact .sl es cl b off cap sz c hc' hcl (λhne=>⟨(hF hne).1,Nat.lt_of_lt_of_le (hF hne).2 hs⟩) hz (λn hn=>(hc b (off+n)).trans (hm n hn)) ih sp hsp
 |fp v b off c hF hb hm _ ih=>exact .fp v b off c hF (Nat.lt_of_lt_of_le hb hs) (λn hn=>(hc b (off+n)).trans (hm n hn)) ih
 |rf k e off len cap cap' L hL hlen hcap ht hroom=>exact .rf k e off len cap cap' L hL hlen hcap ht hroom
 |pt k e off L hL=>exact .pt k e off L hL
 |mp k e L hL=>exact .mp k e L hL
 |yl k e L hL=>exact .yl k e L hL
 |fn f cs vs hl _ ih=>exact .fn f cs vs hl ih
 |ifc v t c _ ih=>exact .ifc v t c ih
 |ift t v c _ ih=>exact .ift t v c ih
 |fnm t v c _ ih=>exact .fnm t v c ih
section
variable{P:Program}{num:Nm}{gl:Nat->Option AV}{gnum:Nat->Nat}{Fb:Nat->Prop}{B0:Nat}{ρ : Rho}{w:World}{O:Nat->Prop}{h:Hp}
theorem D7{D:Nat}{x y:Option (List Deferred)}(hD:w.heap[D]?=some (.deferred x))(b off:Nat):(w.putObj D (.deferred y)).cell? ⟨b,off,none⟩=w.cell? ⟨b,off,none⟩:=by
 by_cases hb:b=D;subst hb;have hlt:b<w.heap.size:=(lZ.1 hD).1;have h2:(w.putObj b (.deferred y)).heap[b]?=some (.deferred y):=by simp[World.putObj,hlt]
 simp only[World.cell?,hD,h2];exact lU (World.putObj_heap_other hb)
theorem HpR.shut{D:Nat}{x y:Option (List Deferred)}(H:HpR num Fb B0 ρ w O h)(hD:w.heap[D]?=some (.deferred x)):HpR num Fb B0 ρ (w.putObj D (.deferred y)) O h:=by
 have hc:=D7 (w:=w) (y:=y) hD;have ho:∀{b:Nat}{o:Obj},w.heap[b]?=some o->(∀z,o ≠ .deferred z)->(w.putObj D (.deferred y)).heap[b]?=some o:=by intro b o hb hn;rw[World.putObj_heap_other (λe=>by subst e;rw[hD]at hb;cases hb;exact hn _ rfl)];exact hb
 have hs:w.heap.size<=(w.putObj D (.deferred y)).heap.size:=by simp
 exact {
  blk:=λk e cs esz ag ti fz hg=>by obtain⟨L,c,T,q1,q2,q3,q4,q5,q6,q7,q8⟩:=H.blk _ _ _ _ _ _ _ hg;refine⟨L,c,T,q1,q2,q3,ho q4 (λz e=>by cases e),q5,q6,λi x hx=>?_,q8⟩;obtain⟨z,z1,z2⟩:=q7 i x hx;exact⟨z,z1,z2.world hc hs⟩
  mpo:=λk e es bs ck hg=>by obtain⟨L,c,T,q1,q2,q3,q4,q5⟩:=H.mpo _ _ _ _ _ hg;refine⟨L,c,T,q1,ho q2 (λz e=>by cases e),q3,λi x y hx hy=>?_,q5⟩;obtain⟨z1,z2,z3⟩:=q4 i x y hx hy;exact⟨z1.world hc hs,z2.world hc hs,z3⟩
  lpo:=λk e st b env ps ca cb hg=>by obtain⟨L,r,q1,q2,q3,q4,q5,q6,q7⟩:=H.lpo _ _ _ _ _ _ _ _ hg;exact⟨L,r,q1,ho q2 (λz e=>by cases e),q3,q4,q5,λi x y hx hy=>(q6 i x y hx hy).world hc hs,q7⟩
  ito:=λk e mk me since seen last hg=>by obtain⟨L,Lm,q1,q2,q3,q4⟩:=H.ito _ _ _ _ _ _ _ hg;exact⟨L,Lm,q1,q2,ho q3 (λz e=>by cases e),q4⟩
  inj:=H.inj
  ep:=H.ep
  own:=λb hb=>by simpa using H.own b hb
  fbl:=H.fbl
  le:=Nat.le_trans H.le hs}
theorem CB{F:Nat->Prop}:∀{ps:List Nat}{avs:List AV}{vs:List Value}{env:List AV}{tmps:Array Value},aJ (Rv num ρ w F) avs vs->env.length=tmps.size ->
  (∀(t:Nat)(x:AV)(y:Value),env[t]?=some x->tmps[t]?=some y->Rv num ρ w F x y)->ps.length=avs.length ->
  (tL env ps avs).length=((ps.zip vs).foldl (λt (p:Nat×Value)=>t.setIfInBounds p.1 p.2) tmps).size /\
  ∀(t:Nat)(x:AV)(y:Value),(tL env ps avs)[t]?=some x->((ps.zip vs).foldl (λt (p:Nat×Value)=>t.setIfInBounds p.1 p.2) tmps)[t]?=some y->Rv num ρ w F x y
 |[],_,_,env,tmps,_,h1,h2,_=>by simp only[tL,List.zip_nil_left,List.foldl_nil];exact⟨h1,h2⟩
 |p::ps,[],_,_,_,_,_,_,h3=>by cases h3
 |p::ps,a::avs,_,env,tmps,.cons (b:=c) (m:=vs) hv hvs,h1,h2,h3=>by simp only[tL,List.zip_cons_cons,List.foldl_cons];refine CB hvs (by simp[h1]) ?_ (by simpa using h3);have:=pI.put (num:=num) (ρ := ρ) (w:=w) (F:=F) (env:=env) (a:={tmps:=tmps,defers:=[]}) ⟨h1,h2,trivial⟩ hv (some p);exact this.get
end
end
end Go.Tev
