import Derived.Test.YtmcadllokkmeiaaGreatDoorBBF
import Derived.Test.YtmcadllokkmeiaaGreatDoorBAY
import Derived.OpenShut
import Derived.Test.YtmcadllokkmeiaaGreatDoorBAV
import Derived.Lib.LaidTab
import Derived.Test.YtmcadllokkmeiaaGreatDoorRows
import Derived.Test.YtmcadllokkmeiaaGreatDoorBBD
set_option linter.all false
namespace Go.Tev
section
theorem OG{a b:List Sp}(h:a.Perm b):S2 a=S2 b:=by
 induction h with
 |nil=>rfl
 |cons x _ ih=>simp only[S2,ih]
 |swap x y l=>simp only[S2];omega
 |trans _ _ h1 h2=>rw[h1,h2]
theorem vV:∀(l:List Sp)(L P:Int),L<=P->l.Pairwise (λp q=>p.1<=q.1)->l.Pairwise (λp q=>fL p q=false)->(∀p∈l,0<=p.2)->(∀p∈l,0<p.2->L<=p.1/\p.1+p.2<=P)->L+S2 l<=P
 |[],L,P,h,_,_,_,_=>by simp only[S2];omega
 |p::r,L,P,h,hs,hm,h0,hb=>by
  rw[List.pairwise_cons]at hs hm;have hp0:=h0 p (by simp);simp only[S2];by_cases hz:p.2=0;have:=vV r L P h hs.2 hm.2 (λq hq=>h0 q (by simp[hq])) (λq hq=>hb q (by simp[hq]));omega;have hpb:=hb p (by simp) (by omega)
  have:=vV r (p.1+p.2) P hpb.2 hs.2 hm.2 (λq hq=>h0 q (by simp[hq])) (λq hq hq0=>by
   have h1:=hs.1 q hq;have h2:=hm.1 q hq;have h3:=(hb q (by simp[hq]) hq0).2;refine⟨?_,h3⟩;by_cases hx:p.1+p.2<=q.1;exact hx;have:fL p q=true:=gF.2 ⟨by omega,hq0,by omega,by omega⟩;rw[this]at h2;cases h2)
  omega
theorem aPF{l:List Sp}{P:Int}(h:0<=P)(hm:l.Pairwise (λp q=>fL p q=false))(h0:∀p∈l,0<=p.2)(hb:∀p∈l,0<p.2->0<=p.1/\p.1+p.2<=P):S2 l<=P:=by have hp:(FC l).Perm l:=List.mergeSort_perm l _;rw[<-OG hp];have hm':(FC l).Pairwise (λp q=>fL p q=false):=(hp.pairwise_iff (fun{x y} hxy=>by rw[kR];exact hxy)).2 hm;have:=vV (FC l) 0 P h (tM l) hm' (λp hp'=>h0 p ((sM l p).1 hp')) (λp hp'=>hb p ((sM l p).1 hp'));omega
theorem gO(at_:Int):∀(n:Nat)(d:List Sp),d.length=n->(cC at_ d).Nodup/\(cC at_ d).length<=d.length
 |0,d,h=>by obtain rfl:=iR h;simp[cC]
 |n+1,d,h=>by
  rcases mO d with hz|⟨e,x,hz⟩
  subst hz;simp at h;have hz:d=e++[x]:=by simpa using hz
  subst hz;obtain⟨ih,il⟩:=gO at_ n e (by simpa using h);rw[qN];constructor;split;rw[List.nodup_append];refine⟨ih,by simp,?_⟩;intro a ha b hb he;simp at hb;subst hb;obtain⟨s,h1,h2,_⟩:=eE.1 ha;have:=(cJ.1 h2).1;omega;simpa using ih;split<;>simp<;>omega
def plI(P:List Sp)(v:Int):Sp:=plc P v.toNat
theorem LQ(S:List Int)(P:List Sp):∀(l:List Int)(a:Int),0<=a->a+4096*l.length<=1000000000->(∀v∈l,(plI P v).2=(S[v.toNat]?).getD 0/\0<=(plI P v).2/\(plI P v).2<=4096) ->
  l.foldl (λa v=>wr .i64 (a+(S[v.toNat]?).getD 0)) a=a+S2 (l.map (plI P))
 |[],a,_,_,_=>by simp[S2]
 |v::r,a,h0,h1,h=>by obtain⟨e1,e2,e3⟩:=h v (by simp);simp only[List.length_cons]at h1;rw[List.foldl_cons,<-e1,aU (by omega) (by omega),LQ S P r _ (by omega) (by omega) (λw hw=>h w (by simp[hw])),List.map_cons,S2];omega
section
variable{k:aA}{ds:List Val}{s:PS}
theorem yB{w:Nat}{a:Sp}{j:Nat}{q:aG}(ha:(aD k)[w]?=some a)(he:a.1=(j:Int))(hq:k.aSf.es[j]?=some q):w=q.value.toNat:=by
 rcases oE (xL ha) with h|⟨h,_⟩|⟨i,x,h1,h2,h3⟩
 omega;omega;obtain rfl:i=j:=by omega
 rw[hq]at h1;cases h1;exact h2.symm
theorem T7{sz:List Int}(h:Inv k sz (Bef k k.aSf.es.length) s){at_:Int}{v w:Int}(hv:v∈cC at_ (aD k))(hw:w∈cC at_ (aD k))(hne:v≠w)(hm:fL (plI s.1 v) (plI s.1 w)=true) :
  ∃j:Nat,at_=j/\0<=d7 k j/\∀q,k.aSf.es[j]?=some q->v.toNat=q.value.toNat\/w.toNat=q.value.toNat:=by
 obtain⟨a,v0,ha,hla⟩:=eE.1 hv;obtain⟨b,w0,hb,hlb⟩:=eE.1 hw;simp only[fQ,aF,eA,eJ,aR]at hla hlb;have hDv:Bef k k.aSf.es.length v.toNat:=tG (at_:=at_) ha hla.1.1;have hDw:Bef k k.aSf.es.length w.toNat:=tG (at_:=at_) hb hlb.1.1;have hnn:v.toNat≠w.toNat:=by omega
 by_cases hab:a.1<=b.1;obtain⟨⟨j,x1,x2,x3⟩,_⟩:=h.dj _ _ a b hDv hDw hnn ha hb hab (by omega) hm;exact⟨j,by omega,by omega,λq hq => .inr (yB hb x1 hq)⟩;simp only[plI]at hm;rw[kR]at hm;obtain⟨⟨j,x1,x2,x3⟩,_⟩:=h.dj _ _ b a hDw hDv (λe=>hnn e.symm) hb ha (by omega) (by omega) hm;exact⟨j,by omega,by omega,λq hq => .inl (yB ha x1 hq)⟩
theorem oC{sz:List Int}(hz:∀v,0<=bI sz v/\bI sz v<=4096)(h:Inv k sz (Bef k k.aSf.es.length) s){at_:Int}{v:Int}(hv:v∈cC at_ (aD k)) :
  (plI s.1 v).2=bI sz v.toNat/\0<=(plI s.1 v).2/\(plI s.1 v).2<=4096/\0<=(plI s.1 v).1/\(plI s.1 v).1+(plI s.1 v).2<=s.2:=by
 obtain⟨a,v0,ha,hla⟩:=eE.1 hv;simp only[fQ,aF,eA,eJ,aR]at hla;have hD:Bef k k.aSf.es.length v.toNat:=tG (at_:=at_) ha hla.1.1;have h1:=h.pl _ hD;have h2:=h.pe _ hD;have h3:=hz v.toNat;simp only[plI];omega
theorem IZ{sz:List Int}(hz:∀v,0<=bI sz v/\bI sz v<=4096)(h:Inv k sz (Bef k k.aSf.es.length) s){at_:Int}{l:List Int}(hl:∀v∈l,v∈cC at_ (aD k))(hn:l.Nodup)
  (hno:∀j:Nat,at_=j->0<=d7 k j->∃q,k.aSf.es[j]?=some q/\∀v∈l,v.toNat≠q.value.toNat):S2 (l.map (plI s.1))<=s.2:=by
 refine aPF h.nn ?_ ?_ ?_;rw[List.pairwise_map];refine List.Pairwise.imp_of_mem ?_ hn;intro v w hv hw hne;cases hm:fL (plI s.1 v) (plI s.1 w);rfl;obtain⟨j,e1,e2,e3⟩:=T7 h (hl v hv) (hl w hw) hne hm;obtain⟨q,q1,q2⟩:=hno j e1 e2;rcases e3 q q1 with e|e;exact absurd e (q2 v hv);exact absurd e (q2 w hw);intro p hp;obtain⟨v,hv,rfl⟩:=List.mem_map.1 hp;exact(oC hz h (hl v hv)).2.1;intro p hp _;obtain⟨v,hv,rfl⟩:=List.mem_map.1 hp;have:=oC hz h (hl v hv);omega
theorem LI(ok:gT k)(hz:∀v,0<=bI (bK k ds) v/\bI (bK k ds) v<=4096)(hn:k.aSe.es.length<=20)(h:Inv k (bK k ds) (Bef k k.aSf.es.length) s)(j:Nat) :
  kI j (mP k ds) 0=S2 ((cC ((j:Int)-1) (aD k)).map (plI s.1)):=by
 obtain⟨h1,h2,h3⟩:=nP (ds:=ds) ok;obtain⟨p1,p2⟩:=zL (ds:=ds) ok;have:=wA (bK k ds) j 0 _ (mP k ds) rfl p2;rw[p1]at this;rw[<-this];obtain⟨_,hlen⟩:=gO ((j:Int)-1) _ (aD k) rfl;rw[LQ (bK k ds) s.1 _ 0 (Int.le_refl 0) (by omega) (λv hv=>?_),Int.zero_add];have:=oC hz h hv;refine⟨?_,this.2.1,this.2.2.1⟩;rw[this.1,bI,fY]
theorem Z2(ok:gT k)(hz:∀v,0<=bI (bK k ds) v/\bI (bK k ds) v<=4096)(hn:k.aSe.es.length<=20)(h:Inv k (bK k ds) (Bef k k.aSf.es.length) s)(j:Nat)(hno:∀i:Nat,(j:Int)-1=i->¬ 0<=d7 k i) :
  kI j (mP k ds) 0<=s.2:=by
 rw[LI ok hz hn h];exact IZ hz h (λv hv=>hv) (gO _ _ _ rfl).1 (λi h1 h2=>absurd h2 (hno i h1))
theorem TP(ok:gT k)(hz:∀v,0<=bI (bK k ds) v/\bI (bK k ds) v<=4096)(hn:k.aSe.es.length<=20)(h:Inv k (bK k ds) (Bef k k.aSf.es.length) s)(i:Nat){q:aG}(hq:k.aSf.es[i]?=some q)(hc:0<=d7 k i) :
  kI (i+1) (mP k ds) 0-bI (bK k ds) q.value.toNat<=s.2:=by
 have hlt:=(cJ.1 hq).1;have hes:k.aSf.es=k.aSf.es.take i++q::k.aSf.es.drop (i+1):=by rw[<- (cJ.1 hq).2,<-i8 hlt,List.take_append_drop]
 have hlen:(k.aSf.es.take i).length=i:=by simp;omega
 obtain⟨c,sc,u,e1,hcv,hsc,hu,hu1,hs1,hs2,hsz⟩:=uK ok ds hes (by rw[hlen];exact hc);rw[hlen]at hu1;have hub:=qE k u (List.mem_of_getElem? hu);have hmem:(q.value.toNat:Int)∈cC ((i+1:Nat)-1:Int) (aD k):=by refine eE.2 ⟨u,by omega,by rw[dU];exact hu,?_⟩;simp only[fQ,aF,eA,eJ,aR];omega
 rw[LI ok hz hn h];have hnd:=(gO ((i+1:Nat)-1:Int) _ (aD k) rfl).1;have hperm:=List.perm_cons_erase hmem;rw[OG (hperm.map (plI s.1)),List.map_cons,S2,(oC hz h hmem).1,dU]
 have:=IZ hz h (at_:=((i+1:Nat)-1:Int)) (l:=(cC ((i+1:Nat)-1:Int) (aD k)).erase (q.value.toNat:Int)) (λv hv=>List.mem_of_mem_erase hv) (hnd.erase _) (λj hj _=>by
  obtain rfl:j=i:=by omega
  refine⟨q,hq,λv hv=>?_⟩;have hne:=(hnd.mem_erase_iff.1 hv).1;obtain⟨_,v0,_⟩:=eE.1 (List.mem_of_mem_erase hv);omega)
 omega
end
end
section
section
variable{pg:Pg}
end
end
section
theorem qD{k:aA}{ds:List Val}(h:cL k ds=0)(v:Nat):0<=bI (bK k ds) v/\bI (bK k ds) v<=4096:=by
 obtain⟨hc,hD,hS⟩:=cD h;have ok:=cA hc;rw[bI,fY];cases hg:(bK k ds)[v]? with
 |none=>simp
 |some z=>have:=BH hD _ _ (BZ ok).2 hS z (List.mem_of_getElem? hg);simp only[Option.getD_some];omega
theorem s7{k:aA}(h:qT k=true):k.aSe.es.length<=20/\k.aSf.es.length<=16:=by simp only[qT,aF,aR]at h;omega
theorem aIC(sz:List Int):∀(P:List Sp)(i:Nat),(∀v,v<P.length->(plc P v).2<=bI sz (i+v))->SS sz i+S2 P<=SS sz (i+P.length)
 |[],i,_=>by simp[S2]
 |p::r,i,h=>by
  have h0:=h 0 (by simp)
  have ih:=aIC sz r (i+1) (λv hv=>by
   have:=h (v+1) (by simpa using hv);rw[show i+1+v=i+(v+1) from by omega];simpa[plc] using this)
  have e:(plc (p::r) 0).2=p.2:=rfl;rw[e,Nat.add_zero]at h0;rw[show i+(p::r).length=i+1+r.length from by simp;omega];rw[SS]at ih;simp only[S2];omega
def oW(k:aA)(ds:List Val)(i:Nat):Int:=
 if 0<i/\i<=k.aSf.es.length/\0<=d7 k (i-1) then (match k.aSf.es[i-1]? with|some q=>kI i (mP k ds) 0-bI (bK k ds) q.value.toNat|none=>kI i (mP k ds) 0) else kI i (mP k ds) 0
structure aMF(k:aA)(ds:List Val)(s:PS):Prop where
 len:s.1.length=k.aSe.es.length
 inp:∀v,v<k.aSg.toNat->0<bI (bK k ds) v->(plc s.1 v).1=SS (bK k ds) v
 en:s.2=0\/∃v,v<s.1.length/\en (plc s.1 v)=s.2
 up:s.2<=SS (bK k ds) k.aSe.es.length
 need:∀i,i<k.aSf.es.length+2->oW k ds i<=s.2
theorem aBJ{k:aA}{ds:List Val}(hx:cL k ds=0)(hf:qT k=true):aMF k ds (eQ k (bK k ds) k.aSf.es):=by
 have ok:=cA (cD hx).1;have hz:=qD hx;obtain⟨hn,_⟩:=s7 hf;have hi:k.aSg.toNat<=k.aSe.es.length:=by have:=ok.out;simp only[bJ,aF,aR]at this;obtain⟨_,⟨⟨⟨⟨⟨⟨_,_⟩,hi0⟩,_⟩,hiV⟩,_⟩,_⟩,_⟩:=this;omega
 have h:=D7 ok ds hz hn hi;have hq:∀q∈k.aSf.es.take k.aSf.es.length,q.value.toNat<k.aSe.es.length:=by intro q hq;rw[List.take_length]at hq;obtain⟨d,r,hes⟩:=List.append_of_mem hq;obtain⟨h0,h1,_⟩:=d5 (ok.ker d q r hes);have:=vW ok;omega
 have hg:=(sQ (k:=k) (sz:=bK k ds) (λv=>⟨(hz v).1,by have:=(hz v).2;omega⟩) hi k.aSf.es.length hq).1;rw[List.take_length]at hg;refine⟨h.len,λv hv hs=>h.inp v hv ((SQ v).1 hv |>.elim λa ⟨h1,h2,h3⟩=>⟨a,h1,h2,by omega⟩) hs,hg.at_,?_,?_⟩
 have h1:=aIC (bK k ds) (eQ k (bK k ds) k.aSf.es).1 0 (λv _=>by
  rw[bF];by_cases hd:Bef k k.aSf.es.length v;rw[(h.pl v hd).2];exact Int.le_refl _;rw[h.no v hd];exact(hz v).1)
 rw[SS,bF,h.len]at h1;have:=h.up;omega;intro i hi2;rw[oW];split;rename_i hc;obtain⟨j,rfl⟩:∃j,i=j+1:=⟨i-1,by omega⟩
 rw[Nat.add_sub_cancel]at hc ⊢;have hlt:j<k.aSf.es.length:=by omega
 rw[aW hlt];exact TP ok hz hn h j (aW hlt) hc.2.2;rename_i hc;refine Z2 ok hz hn h i (λj hj hcj=>hc ?_);obtain rfl:i=j+1:=by omega
 refine⟨by omega,?_,by rw[Nat.add_sub_cancel];exact hcj⟩;by_cases hlt:j<k.aSf.es.length;omega;exfalso;rw[d7]at hcj;rcases qS (λv=>kS k (j:Int) (v:Int)) k.aSe.es.length 0 with h|⟨c,h1,h2,_,h3⟩
 rw[h]at hcj;exact absurd hcj (by decide);simp only[kS,dU,eK (Nat.le_of_not_lt hlt)]at h2;cases h2
theorem FU{P:List Sp}{n:Nat}{x:Sp}(h:P[n]?=some x):plc P n=x:=by rw[plc,fY,h];rfl
section
variable{pg:Pg}
end
end
section
structure dK where
 P:List Sp
 C:List Int
 pk:Int
 n1:Bool
 c1:Bool
 n2:Bool
 c2:Bool
 bP:P.length<=big
 bC:C.length<=big
def dK.cells(p:dK):List AV:=[.sl p.n1 (p.P.map bO) p.c1,.sl p.n2 (p.C.map aH) p.c2,.int .i64 p.pk]
def dK.av(p:dK):AV:=.agg p.cells
theorem dK.avc(p:dK):p.av = .agg [.sl p.n1 (p.P.map bO) p.c1,.sl p.n2 (p.C.map aH) p.c2,.int .i64 p.pk]:=rfl
def okP(sz:List Int)(sp:List Sp)(pk:Int)(v:Nat)(x:Sp):Bool:=
 decide (x.2=bI sz v)&&(if (plc sp v).1 = -2 then decide (x.1 = -1) else decide (0<=x.1)&&decide (x.1<=pk-x.2))
def rY(sz:List Int)(sp:List Sp)(pk:Int):Nat->List Sp->Bool
 |_,[]=>true
 |v,x::r=>okP sz sp pk v x&&rY sz sp pk (v+1) r
section
variable{pg:Pg}
end
end
section
section
variable{H:Type}{enc:TypeId×Value->H}{P:Program}{w:World}{num:Nm}{ρ : Rho}{b:DataW H->Nat}{bs:List (DataW H)->Nat}
structure aKM(P:Program)(tI tPc sPc sI tPl:TypeId):Prop where
 uI:P.underlying tI=some (.int .i64)
 uPc:∃fs,P.underlying tPc=some (.struct fs)/\fs.toList.map (λf=>(f.type,f.offset))=[(tI,0),(tI,1)]
 usPc:P.underlying sPc=some (.slice tPc)
 usI:P.underlying sI=some (.slice tI)
 uPl:∃fs,P.underlying tPl=some (.struct fs)/\fs.toList.map (λf=>(f.type,f.offset))=[(sPc,0),(sI,1),(tI,2)]
 cI:P.cellsOf tI=1
 cPc:P.cellsOf tPc=2
 csPc:P.cellsOf sPc=1
 csI:P.cellsOf sI=1
 cPl:P.cellsOf tPl=3
variable{tI tPc sPc sI tPl:TypeId}
theorem aFq(B:H7 b bs)(T:aKM P tI tPc sPc sI tPl)(N:Nat):Rd enc P w num ρ b N tPc (λx:Sp=>[aH x.1]++([aH x.2]++[])) (λ_ _=>True):=by
 intro fuel hN cs d ps h hb;obtain⟨fs,hu,hL⟩:=T.uPc;obtain⟨xs,n,hn,hx,hcl,hl,hf⟩:=gL hu hL h;rw[T.cPc]at hcl;obtain⟨y0,y1,rfl⟩:∃y0 y1,xs=[y0,y1]:=by
  match xs,hl with
  |[y0,y1],_=>exact⟨y0,y1,rfl⟩
 have hx':d = .agg [y0.1,y1.1]:=hx;subst hx';rw[B.agg]at hb ⊢;simp only[B.cons,B.nil]at hb ⊢;have f0:_=some y0:=hf 0 (tI,0) rfl;have f1:_=some y1:=hf 1 (tI,1) rfl;simp only[T.cI]at f0 f1;obtain⟨a0,p0,g0⟩:=(Rd.int (enc:=enc) (w:=w) (num:=num) (ρ := ρ) (b:=b) (N:=n) T.uI) n (aX _) _ y0.1 y0.2 f0 (by omega);obtain⟨a1,p1,g1⟩:=(Rd.int (enc:=enc) (w:=w) (num:=num) (ρ := ρ) (b:=b) (N:=n) T.uI) n (aX _) _ y1.1 y1.2 f1 (by omega);refine⟨(a0,a1),?_,trivial⟩;have q:=(p0.piece (p1.piece (bA.done (by omega))))
 rw[List.drop_zero]at q;exact q
theorem aFp(B:H7 b bs)(T:aKM P tI tPc sPc sI tPl)(N:Nat):Rd enc P w num ρ b N tPl (λx:dK=>[AV.sl x.n1 (x.P.map bO) x.c1]++([AV.sl x.n2 (x.C.map aH) x.c2]++([aH x.pk]++[]))) (λ_ _=>True):=by
 intro fuel hN cs d ps h hb;obtain⟨fs,hu,hL⟩:=T.uPl;obtain⟨xs,n,hn,hx,hcl,hl,hf⟩:=gL hu hL h;rw[T.cPl]at hcl;obtain⟨y0,y1,y2,rfl⟩:∃y0 y1 y2,xs=[y0,y1,y2]:=by
  match xs,hl with
  |[y0,y1,y2],_=>exact⟨y0,y1,y2,rfl⟩
 have hx':d = .agg [y0.1,y1.1,y2.1]:=hx;subst hx';rw[B.agg]at hb ⊢;simp only[B.cons,B.nil]at hb ⊢;have f0:_=some y0:=hf 0 (sPc,0) rfl;have f1:_=some y1:=hf 1 (sI,1) rfl;have f2:_=some y2:=hf 2 (tI,2) rfl;simp only[T.cI,T.csPc,T.csI]at f0 f1 f2;obtain⟨a0,p0,_⟩:=((Rd.slice B (N:=n) (sz:=2) bO T.usPc T.cPc (by decide) (λx=>rfl) (λx=>rfl) (aFq (enc:=enc) (w:=w) (num:=num) (ρ := ρ) B T n)).mono (Nat.le_succ n)) n (aX _) _ y0.1 y0.2 f0 (by omega);obtain⟨a1,p1,_⟩:=((Rd.slice B (N:=n) (sz:=1) aH T.usI T.cI (by decide) (λx=>rfl) (λx=>rfl) (Rd.int (enc:=enc) (w:=w) (num:=num) (ρ := ρ) (b:=b) (N:=n) T.uI)).mono (Nat.le_succ n)) n (aX _) _ y1.1 y1.2 f1 (by omega);obtain⟨a2,p2,_⟩:=(Rd.int (enc:=enc) (w:=w) (num:=num) (ρ := ρ) (b:=b) (N:=n) T.uI) n (aX _) _ y2.1 y2.2 f2 (by omega);refine⟨⟨a0.es,a1.es,a2,a0.nl,a0.cl,a1.nl,a1.cl,a0.ok,a1.ok⟩,?_,trivial⟩;have q:=(p0.piece (p1.piece (p2.piece (bA.done (by omega)))))
 rw[List.drop_zero]at q;exact q
end
end
end Go.Tev
section
set_option maxRecDepth 100000
namespace Go.Proofs
open Go.Tev
theorem tyS:TyP Tryz.prog 3 9 4 107 99 102 104 153 59 61 28 97 23 24 56 57 25 26 22 where
 uI:=Tryz.underlying3
 uS:=Tryz.underlying9
 uB:=Tryz.underlying4
 u_tCoef:=⟨_,Tryz.underlying107,by kernel_rfl⟩
 u_tLin:=⟨_,Tryz.underlying99,by kernel_rfl⟩
 u_tShape:=⟨_,Tryz.underlying102,by kernel_rfl⟩
 u_tTyp:=⟨_,Tryz.underlying104,by kernel_rfl⟩
 u_tStep:=⟨_,Tryz.underlying153,by kernel_rfl⟩
 u_tPull:=⟨_,Tryz.underlying59,by kernel_rfl⟩
 u_tKer:=⟨_,Tryz.underlying61,by kernel_rfl⟩
 u_tKers:=⟨_,Tryz.underlying28,by kernel_rfl⟩
 u_sCoef:=Tryz.underlying97
 u_sLin:=Tryz.underlying23
 u_sTyp:=Tryz.underlying24
 u_sStep:=Tryz.underlying56
 u_sPull:=Tryz.underlying57
 u_sKer:=Tryz.underlying25
 u_sInt:=Tryz.underlying26
 u_sStr:=Tryz.underlying22
 c_tI:=by kernel_rfl
 c_tS:=by kernel_rfl
 c_tB:=by kernel_rfl
 c_tCoef:=by kernel_rfl
 c_tLin:=by kernel_rfl
 c_tShape:=by kernel_rfl
 c_tTyp:=by kernel_rfl
 c_tStep:=by kernel_rfl
 c_tPull:=by kernel_rfl
 c_tKer:=by kernel_rfl
 c_tKers:=by kernel_rfl
 c_sCoef:=by kernel_rfl
 c_sLin:=by kernel_rfl
 c_sTyp:=by kernel_rfl
 c_sStep:=by kernel_rfl
 c_sPull:=by kernel_rfl
 c_sKer:=by kernel_rfl
 c_sInt:=by kernel_rfl
 c_sStr:=by kernel_rfl
theorem aMJ:aKM Tryz.prog 3 40 29 26 31 where
 uI:=Tryz.underlying3
 uPc:=⟨_,Tryz.underlying40,by kernel_rfl⟩
 usPc:=Tryz.underlying29
 usI:=Tryz.underlying26
 uPl:=⟨_,Tryz.underlying31,by kernel_rfl⟩
 cI:=by kernel_rfl
 cPc:=by kernel_rfl
 csPc:=by kernel_rfl
 csI:=by kernel_rfl
 cPl:=by kernel_rfl
theorem LO{ρ : Rho}{W:World}{g:Nat}{v:AV}{cs:Array Value}{T:TypeId}{fr:Nat×Nat}(ht:v.tree=true)(hg:W.heap[g]?=some (.cells cs T fr))(h:bA (Rv nm ρ W noF) v.cells cs.toList) :
  (v.tree=true/\∃c T fr,W.heap[bE g]?=some (.cells c T fr)/\c.size=v.cells.length)/\Rv nm ρ W noF (.fp v) (.pointer (some ⟨bE g,0,none⟩)):=by
 have hl:=h.length;have hsz:cs.size=v.cells.length:=by rw[hl];simp
 refine⟨⟨ht,cs,T,fr,hg,hsz⟩,?_⟩;have hlt:g<W.heap.size:=by by_cases hlt:g<W.heap.size;exact hlt;rw[Array.getElem?_eq_none (Nat.le_of_not_lt hlt)]at hg;cases hg
 have hcell:∀n,n<cs.size->W.cell? ⟨g,0+n,none⟩=some (cs[n]?.getD undef):=by intro n hn;simp only[World.cell?,hg,Option.isSome_none,Bool.false_eq_true,if_false,Nat.zero_add];rw[Array.getElem?_eq_getElem hn];rfl
 refine .fp v g 0 (λn=>cs[n]?.getD undef) (λh=>h) hlt (λn hn=>hcell n (by omega)) ?_;intro j x hx;have hj:j<cs.size:=by rw[hsz];exact(List.getElem?_eq_some_iff.1 hx).1
 have h2:=h.get j x (cs[j]'hj) hx (by rw[Array.getElem?_toList,Array.getElem?_eq_getElem hj]);simpa[Array.getElem?_eq_getElem hj] using h2
theorem BE{P:Program}{W:World}{n:String}{g:Nat}{cs:Array Value}(hg:P.globalNamed n=some g)(h:W.var? P n=some cs):∃T fr,W.heap[g]?=some (.cells cs T fr):=by unfold World.var? at h;rw[hg,Option.bind_some]at h;split at h;rename_i c T fr hh;cases h;exact⟨T,fr,hh⟩;cases h
theorem QB{P:Program}{W:World}{fuel:Nat}{t:TypeId}{cs:List Value}{name:String}{d:DataW Unit}{p:List MemPlace}{ms}(ht:P.underlying t=some (.interface ms))
  (h:DataW.trod (λ_=>()) P W 0 (λ_=>true) false fuel t cs=some (.iface name d,p)):∃u v,cs=[.iface u v]:=by
 cases fuel with
 |zero=>simp[DataW.trod]at h
 |succ fuel=>
  unfold DataW.trod at h;rw[ht]at h;split at h<;>first|(rename_i e;cases e;done)|skip
  all_goals first|(exact⟨_,_,rfl⟩)|(cases h;done)|skip
theorem aLK{W:World}(hL:laidMetH Tryz.prog YtmcadllokkmeiaaGreatDoor.Rows.auditBoundUptoRow.laid W):lL nm glS bE (λ_ _=>none) W noF:=by
 have e:(YtmcadllokkmeiaaGreatDoor.Rows.auditBoundUptoRow.laid.filter λx=>x.2.handleName?.isSome)=[]:=by kernel_rfl
 have h:laidMet Tryz.prog YtmcadllokkmeiaaGreatDoor.Rows.auditBoundUptoRow.laid W:=by unfold laidMetH at hL;rw[e]at hL;exact hL
 obtain⟨ps,hv,_,_⟩:=h;obtain⟨g1,t1,cs1,f1,p1,q1,hg1,ht1,hv1,hd1,hr1,_⟩:=hv;obtain⟨g2,t2,cs2,f2,p2,q2,hg2,ht2,hv2,hd2,hr2,_⟩:=hr1;obtain⟨g3,t3,cs3,f3,p3,q3,hg3,ht3,hv3,hd3,hr3,_⟩:=hr2;obtain⟨g4,t4,cs4,f4,p4,q4,hg4,ht4,hv4,hd4,hr4,_⟩:=hr3;obtain⟨g5,t5,cs5,f5,p5,q5,hg5,ht5,hv5,hd5,hr5,_⟩:=hr4;obtain⟨g6,t6,cs6,f6,p6,q6,hg6,ht6,hv6,hd6,hr6,_⟩:=hr5;obtain⟨g7,t7,cs7,f7,p7,q7,hg7,ht7,hv7,hd7,hr7,_⟩:=hr6;clear hr7;obtain⟨T3,fr3,hh3⟩:=BE hg3 hv3;obtain⟨T5,fr5,hh5⟩:=BE hg5 hv5;obtain⟨T6,fr6,hh6⟩:=BE hg6 hv6;obtain rfl:3=g3:=Option.some.inj ((show Tryz.prog.globalNamed _=some 3 by kernel_rfl).symm.trans hg3);obtain rfl:1=g5:=Option.some.inj ((show Tryz.prog.globalNamed _=some 1 by kernel_rfl).symm.trans hg5);obtain rfl:0=g6:=Option.some.inj ((show Tryz.prog.globalNamed _=some 0 by kernel_rfl).symm.trans hg6);obtain rfl:353=t3:=Option.some.inj ((show (Tryz.prog.globals[3]?).map (·.type)=some 353 by kernel_rfl).symm.trans ht3);obtain rfl:195=t5:=Option.some.inj ((show (Tryz.prog.globals[1]?).map (·.type)=some 195 by kernel_rfl).symm.trans ht5);obtain rfl:195=t6:=Option.some.inj ((show (Tryz.prog.globals[0]?).map (·.type)=some 195 by kernel_rfl).symm.trans ht6);have hd3':DataW.trod (λ_=>()) Tryz.prog W 0 (λ_=>true) false f3 353 cs3.toList=some (Lib.tabData .u64 Lib.pow10Tab,p3):=hd3;have hcsP:=Lib.cells_of_tab Tryz.underlying353 Tryz.underlying170 (by kernel_rfl) (by kernel_rfl) hd3';obtain⟨uR,vR,hcR⟩:=QB Tryz.underlying195 hd5;obtain⟨uY,vY,hcY⟩:=QB Tryz.underlying195 hd6;intro g v hg;unfold glS at hg;cases h1:g.beq 0 with
 |true=>rw[h1]at hg;simp only[cond_true,Option.some.injEq]at hg;subst hg;obtain rfl:=Nat.eq_of_beq_eq_true h1;exact LO (by kernel_rfl) hh6 (by rw[hcY];exact .cons (.ifc _ _ _ (.top _)) .nil)
 |false=>
  cases h2:g.beq 1 with
  |true=>rw[h1,h2]at hg;simp only[cond_true,cond_false,Option.some.injEq]at hg;subst hg;obtain rfl:=Nat.eq_of_beq_eq_true h2;exact LO (by kernel_rfl) hh5 (by rw[hcR];exact .cons (.ifc _ _ _ (.top _)) .nil)
  |false=>
   cases h3:g.beq 3 with
   |true=>
    rw[h1,h2,h3]at hg;simp only[cond_true,cond_false,Option.some.injEq]at hg;subst hg;obtain rfl:=Nat.eq_of_beq_eq_true h3;refine LO (by kernel_rfl) hh3 ?_;rw[hcsP];refine bA.mk_get (by simp[AV.cells]) ?_;intro i x y hx hy;simp only[AV.cells,List.getElem?_map]at hx hy;cases hz:Lib.pow10Tab[i]? with
    |none=>rw[hz]at hx;cases hx
    |some z=>rw[hz]at hx hy;cases hx;cases hy;exact .int _ _
   |false=>rw[h1,h2,h3]at hg;cases hg
end Go.Proofs
end
namespace Go.Tev
section
def wY(k:aA)(at_:Int)(v:Nat):Bool:=match k.aSf.es[at_.toNat]? with
 |some q=>decide ((v:Int)=q.value)
 |none=>false
def qC(k:aA)(P:List Sp)(at_:Int)(v w:Nat):Bool:=
 decide (0<=at_)&&decide (at_<(k.aSf.es.length:Int))&&wY k at_ v&&decide ((plc P v).1=(plc P w).1)&&yW k at_ w
def gG(k:aA)(P:List Sp)(at_:Int)(v w:Nat):Bool:=
 !fL (plc P v) (plc P w)||qC k P at_ v w||qC k P at_ w v
theorem TN{P:List Sp}{v:Nat}(h:v<P.length):P[v]?=some (plc P v):=by rw[plc,fY,aW h];rfl
theorem FV{P:List Sp}{v:Nat}(h:v<P.length):(P.map bO)[v]?=some (.agg [.int .i64 (plc P v).1,.int .i64 (plc P v).2]):=by rw[fX,TN h];rfl
section
variable{pg:Pg}
end
end
section
section
variable{pg:Pg}
set_option maxRecDepth 100000 in
set_option maxHeartbeats 4000000 in
theorem c630(hf:pg.fs 630=some J0)(h638:pg.fs 638=some DK)(k:aA)(p:dK)(h265:∀at_ v:Int,Ret pg 265 [k.av,.int .i64 at_,.int .i64 v] (.bool (yW k at_ v)))(at_:Int)(v w:Nat)(hv:v<p.P.length)(hw:w<p.P.length)
  (w1:wr .i64 ((plc p.P w).1+(plc p.P w).2)=(plc p.P w).1+(plc p.P w).2) (w2:wr .i64 ((plc p.P v).1+(plc p.P v).2)=(plc p.P v).1+(plc p.P v).2) :
  Ret pg 630 [k.av,p.av,.int .i64 at_,.int .i64 v,.int .i64 w] (.bool (gG k p.P at_ v w)):=by
 have a0:=c638 h638 (plc p.P v) (plc p.P w) w1 w2;have a1:=h265 at_ w;have a2:=h265 at_ v;have lv:((v:Int)<(p.P.length:Int))=True:=aK (by omega);have lw:((w:Int)<(p.P.length:Int))=True:=aK (by omega);have hv0:(0<=(v:Int))=True:=aK (by omega);have hw0:(0<=(w:Int))=True:=aK (by omega);have hv':=FV hv;have hw':=FV hw;rw[aA.avc]at a1 a2;simp only[bO]at a0;rw[aA.avc,dK.avc];refine Ret.ofX hf ?_;unfold J0;simp only[aM,lv,lw,hv0,hw0,hv',hw',go_sem,seval];refine aB a0 ?_;cases hm:fL (plc p.P v) (plc p.P w);simp only[go_sem,seval];refine⟨by kernel_rfl,?_⟩;simp[gG,hm];cases b1:decide (at_<0)
 case true=>
  have hn:decide (0<=at_)=false:=by have:=aO b1;simp;omega
  simp only[b1,go_sem,seval];refine⟨by kernel_rfl,by kernel_rfl,?_⟩;simp[gG,hm,qC,hn]
 have h0:0<=at_:=by have:=bW b1;omega
 obtain⟨j,rfl⟩:=jN h0;cases b2:decide ((k.aSf.es.length:Int)<=(j:Int))
 case true=>
  have hn:decide ((j:Int)<(k.aSf.es.length:Int))=false:=by have:=aO b2;simp;omega
  simp only[b1,b2,aM,go_sem,seval];refine⟨by kernel_rfl,by kernel_rfl,?_⟩;simp only[gG,hm,qC,hn,Bool.not_true,gD,d9,Bool.or_self]
 have hjl:j<k.aSf.es.length:=by have:=bW b2;omega
 have hb2:decide ((j:Int)<(k.aSf.es.length:Int))=true:=by simp;omega
 have hb1:decide (0<=(j:Int))=true:=by simp
 have hcomm:decide ((plc p.P w).1=(plc p.P v).1)=decide ((plc p.P v).1=(plc p.P w).1):=by by_cases h:(plc p.P v).1=(plc p.P w).1;simp[h];have h':¬(plc p.P w).1=(plc p.P v).1:=λe=>h e.symm;simp[h,h']
 cases b4:decide ((plc p.P v).1=(plc p.P w).1);rw[b4]at hcomm;simp only[b1,b2,b4,aM,lv,lw,hv0,hw0,hv',hw',go_sem,seval];refine⟨by kernel_rfl,by kernel_rfl,?_⟩;simp only[gG,hm,qC,b4,hcomm,Bool.not_true,gD,d9,Bool.or_self];rw[b4]at hcomm;have l6:((j:Int)<(k.aSf.es.length:Int))=True:=aK (by omega);have hj0:(0<=(j:Int))=True:=aK (by omega);have hq:k.aSf.es[j]?=some k.aSf.es[j]:=aW hjl;generalize k.aSf.es[j]=q at hq;have hval:∀u:Nat,wY k (j:Int) u=decide ((u:Int)=q.value):=λu=>by simp[wY,hq]
 have hsp:gG k p.P (j:Int) v w=(decide ((v:Int)=q.value)&&yW k j w||decide ((w:Int)=q.value)&&yW k j v):=by simp only[gG,hm,qC,b4,hcomm,hb1,hb2,hval,Bool.not_true,Bool.false_or,cE,fF]
 have hs1:∀u:Nat,decide (q.value=(u:Int))=decide ((u:Int)=q.value):=λu=>by by_cases h:(u:Int)=q.value;simp[h];have h':¬q.value=(u:Int):=λe=>h e.symm;simp[h,h']
 rw[hsp];have s1:=hs1 v;have s2:=hs1 w;simp only[b1,b2,b4,aM,lv,lw,hv0,hw0,hv',hw',go_sem,seval];refine⟨by kernel_rfl,by kernel_rfl,?_⟩;simp only[l6,hj0,hq,aG.avc,aM,go_sem,seval];cases b5:decide ((v:Int)=q.value)<;>cases b6:decide ((w:Int)=q.value)<;>rw[b5]at s1<;>rw[b6]at s2;simp only[s1,s2,go_sem,seval];simp only[s1,s2,go_sem,seval];refine aB a2 ?_;simp only[go_sem,seval];simp only[s1,s2,go_sem,seval];refine aB a1 ?_;cases yW k j w<;>simp only[s1,s2,go_sem,seval];simp only[s1,s2,go_sem,seval];refine aB a1 ?_;cases yW k j w;simp only[s1,s2,go_sem,seval];refine aB a2 ?_;simp only[go_sem,seval];simp only[s1,s2,go_sem,seval]
end
end
section
def mU(k:aA)(P:List Sp)(at_:Int):List Int->List Int->Bool
 |_,[]=>true
 |d,v::r=>d.all (λw=>gG k P at_ v.toNat w.toNat)&&mU k P at_ (d++[v]) r
def lK(k:aA)(P:List Sp):Nat->List Nat->Bool
 |_,[]=>true
 |n,j::r=>mU k P ((j:Int)-1) [] (cC ((j:Int)-1) (aD k))&&lK k P (n+1) r
def pB(k:aA)(ds:List Val)(p:dK):Bool:=
 decide (cL k ds=0)&&decide ((p.P.length:Int)=(k.aSe.es.length:Int))&&decide ((p.C.length:Int)=(k.aSf.es.length:Int)) && !decide (p.pk<0) && !decide (1000000<p.pk) &&
  rY (bK k ds) (aD k) p.pk 0 p.P&&lK k p.P 0 (List.range (k.aSf.es.length+2))
theorem zV{sz:List Int}{sp:List Sp}{pk:Int}:∀(P:List Sp)(i w:Nat),rY sz sp pk i P=true->w<P.length->okP sz sp pk (i+w) (plc P w)=true
 |[],_,_,_,h=>by simp at h
 |x::r,i,0,h,_=>by rw[rY,aF]at h;exact h.1
 |x::r,i,w+1,h,hw=>by rw[rY,aF]at h;have:=zV r (i+1) w h.2 (by simpa using hw);rw[show i+(w+1)=i+1+w from by omega];exact this
section
variable{pg:Pg}
end
end
end Go.Tev
