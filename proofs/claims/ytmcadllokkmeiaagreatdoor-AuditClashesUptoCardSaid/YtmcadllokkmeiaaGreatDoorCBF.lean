import Derived.Test.YtmcadllokkmeiaaGreatDoorCBE
set_option linter.all false
namespace Go.Tev
section
abbrev PS:=List Sp×Int
def mxI(a b:Int):Int:=if a<b then b else a
def jT(sz:List Int)(v:Nat):Int:=sz.getD v 0
def plc(P:List Sp)(v:Nat):Sp:=P.getD v (-1,0)
def en(p:Sp):Int:=wr .i64 (p.1+p.2)
def B1(sz:List Int)(s:PS)(v:Nat)(o:Int):PS:=(s.1.set v (o,jT sz v),mxI s.2 (en (o,jT sz v)))
theorem YQ(sz:List Int)(s:PS)(v:Nat)(o:Int):(B1 sz s v o).1.length=s.1.length:=by simp[B1]
theorem UE(P:List Sp)(v w:Nat)(x:Sp):plc (P.set v x) w=if v=w/\v<P.length then x else plc P w:=by simp only[plc,List.getD_eq_getElem?_getD,List.getElem?_set];by_cases h:v=w;subst h;by_cases h2:v<P.length;simp[h2];simp[h2];simp[h]
theorem aJE{o z:Int}(h1 : -1<=o)(h2:o<=2000000000)(h3:0<=z)(h4:z<=1000000000):en (o,z)=o+z:=aO (by simp only;omega) (by simp only;omega)
theorem DL{sz:List Int}{s:PS}{v w:Nat}{o:Int}(h:v≠w):plc (B1 sz s v o).1 w=plc s.1 w:=by simp only[B1];rw[UE,if_neg (λx=>h x.1)]
theorem P1{sz:List Int}{s:PS}{v:Nat}{o:Int}(h:v<s.1.length):plc (B1 sz s v o).1 v=(o,jT sz v):=by simp only[B1];rw[UE,if_pos ⟨rfl,h⟩]
theorem aJm(a b:Int):a<=mxI a b/\b<=mxI a b:=by unfold mxI;split<;>omega
theorem aIK(a b:Int):mxI a b=a\/mxI a b=b:=by unfold mxI;split<;>simp
end
section
def iI(k:aA)(ds:List Val):List Int:=fV (fT ds) (aF k) k.values.es
end
section
structure MH(k:aA)(sz:List Int)(n2 c2:Bool)(s:PS)(hp:Hp):Prop where
 g1:hp.get 1=some (0,.blk k.cells 6 true true false)
 g5:hp.get 5=some (0,.blk [.sl true [] true,.sl true [] true,.int .i64 0] 3 true true false)
 g13:hp.get 13=some (0,.blk [.sl false (sz.map aJ) true] 1 false true false)
 g21:hp.get 21=some (0,.blk (bF s.1) 2 true false false)
 g25:hp.get 25=some (0,.blk [.rf 21 0 0 k.values.es.length k.values.es.length,.sl n2 ((kT k).map aJ) c2,.int .i64 s.2] 3 true true false)
theorem MH.put{k:aA}{sz:List Int}{n2 c2:Bool}{s:PS}{hp:Hp}(m:MH k sz n2 c2 s hp)(v:Nat)(o:Int) :
  MH k sz n2 c2 (B1 sz s v o) ((hp.put 21 0 (.blk (bF (s.1.set v (o,jT sz v))) 2 true false false)).put 25 0 (.blk [.rf 21 0 0 k.values.es.length k.values.es.length,.sl n2 ((kT k).map aJ) c2,.int .i64 (if s.2<wr .i64 (o+jT sz v) then wr .i64 (o+jT sz v) else s.2)] 3 true true false)):=by
 refine⟨?_,?_,?_,?_,?_⟩;rw[aD,if_neg (by decide),aD,if_neg (by decide)];exact m.g1;rw[aD,if_neg (by decide),aD,if_neg (by decide)];exact m.g5;rw[aD,if_neg (by decide),aD,if_neg (by decide)];exact m.g13;rw[aD,if_neg (by decide),aD,if_pos rfl];rfl;rw[aD,if_pos rfl];rfl
theorem MH.other{k:aA}{sz:List Int}{n2 c2:Bool}{s:PS}{hp:Hp}(m:MH k sz n2 c2 s hp)(j e:Nat)(o:Ob)(hj:(j==1||j==5||j==13||j==21||j==25)=false):MH k sz n2 c2 s (hp.put j e o):=by simp only[Bool.or_eq_false_iff,beq_eq_false_iff_ne]at hj;obtain⟨⟨⟨⟨h1,h5⟩,h13⟩,h21⟩,h25⟩:=hj;exact⟨by rw[aD,if_neg h1];exact m.g1,by rw[aD,if_neg h5];exact m.g5,by rw[aD,if_neg h13];exact m.g13,by rw[aD,if_neg h21];exact m.g21,by rw[aD,if_neg h25];exact m.g25⟩
section
variable{pg:Pg}
end
end
section
structure MR(k:aA)(n2 c2:Bool)(e:Nat)(P:List Sp)(pk:Int)(hp:Hp):Prop where
 g1:hp.get 1=some (0,.blk k.cells 6 true true false)
 g5:hp.get 5=some (0,.blk [.sl true [] true,.sl true [] true,.int .i64 0] 3 true true false)
 g17:hp.get 17=some (0,.blk [.rf 21 e 0 k.values.es.length k.values.es.length,.sl n2 ((kT k).map aJ) c2,.int .i64 pk] 3 true true false)
 g21:hp.get 21=some (e,.blk (bF P) 2 true false false)
theorem MR.other{k:aA}{n2 c2:Bool}{e:Nat}{P:List Sp}{pk:Int}{hp hp':Hp}(m:MR k n2 c2 e P pk hp)(j:Nat)(hj:21<j)(h:∀i,i≠j->hp'.get i=hp.get i):MR k n2 c2 e P pk hp':=
 ⟨by rw[h 1 (by omega)];exact m.g1,by rw[h 5 (by omega)];exact m.g5,by rw[h 17 (by omega)];exact m.g17,by rw[h 21 (by omega)];exact m.g21⟩
theorem MR.put{k:aA}{n2 c2:Bool}{e:Nat}{P:List Sp}{pk:Int}{hp:Hp}(m:MR k n2 c2 e P pk hp)(Q:List Sp):MR k n2 c2 e Q pk (hp.put 21 e (.blk (bF Q) 2 true false false)):=
 ⟨by rw[aD,if_neg (by decide)];exact m.g1,by rw[aD,if_neg (by decide)];exact m.g5,by rw[aD,if_neg (by decide)];exact m.g17,by rw[aD,if_pos rfl]⟩
section
variable{pg:Pg}
end
end
section
def S2:List Sp->Int
 |[]=>0
 |p::r=>p.2+S2 r
theorem aCh:∀(P:List Sp)(v:Nat)(x:Sp),v<P.length->(plc P v).2=0->S2 (P.set v x)=S2 P+x.2
 |[],_,_,h,_=>by simp at h
 |p::r,0,x,_,h=>by simp only[plc,List.getD_cons_zero]at h;simp only[List.set_cons_zero,S2];omega
 |p::r,v+1,x,h,h0=>by simp only[plc,List.getD_cons_succ]at h0;simp only[List.set_cons_succ,S2,aCh r v x (by simpa using h) h0];omega
theorem aFS:∀(P:List Sp)(c:Int),(∀p∈P,p.2<=c)->S2 P<=c*P.length
 |[],c,_=>by simp[S2]
 |p::r,c,h=>by
  have h1:=h p (by simp);have h2:=aFS r c (λq hq=>h q (by simp[hq]));simp only[S2,List.length_cons];have:c*((r.length+1:Nat):Int)=c*(r.length:Int)+c:=by rw[Int.natCast_add];simp[Int.mul_add]
  omega
def SS(sz:List Int):Nat->Int
 |0=>0
 |n+1=>SS sz n+jT sz n
def Exc(k:aA)(v:Nat)(a b:Sp):Prop:=∃j:Nat,b.1=j/\a.2=j/\AD k j=(v:Int)
structure Inv(k:aA)(sz:List Int)(D:Nat->Prop)(s:PS):Prop where
 len:s.1.length=k.values.es.length
 pl:∀v,D v->0<=(plc s.1 v).1/\(plc s.1 v).2=jT sz v
 no:∀v,¬D v->plc s.1 v=(-1,0)
 dj:∀(v w:Nat)(a b:Sp),D v->D w->v≠w->(aF k)[v]?=some a->(aF k)[w]?=some b->a.1<=b.1->b.1<=a.2->lX (plc s.1 v) (plc s.1 w)=true->Exc k v a b/\(plc s.1 v).1=(plc s.1 w).1
 pe:∀v,D v->(plc s.1 v).1+(plc s.1 v).2<=s.2
 nn:0<=s.2
 up:s.2<=S2 s.1
 inp:∀v,v<k.inputs.toNat->D v->0<jT sz v->(plc s.1 v).1=SS sz v
theorem Inv.sm{k:aA}{sz:List Int}(hz:∀v,0<=jT sz v/\jT sz v<=4096)(hn:k.values.es.length<=20){D:Nat->Prop}{s:PS}(h:Inv k sz D s):s.2<=81920:=by
 have h1:=aFS s.1 4096 (λp hp=>by
  obtain⟨v,hv⟩:=List.mem_iff_getElem?.1 hp;have e:plc s.1 v=p:=by rw[plc,List.getD_eq_getElem?_getD,hv];rfl
  by_cases hd:D v;rw[<-e,(h.pl v hd).2];exact(hz v).2;rw[<-e,h.no v hd];decide)
 have h2:=h.up;have h3:=h.len;omega
theorem Inv.bad{k:aA}{sz:List Int}(hz:∀v,0<=jT sz v/\jT sz v<=4096)(hn:k.values.es.length<=20){D:Nat->Prop}{s:PS}(h:Inv k sz D s){v:Nat}(hv:D v):rL (plc s.1 v)=false:=by have h1:=h.sm hz hn;have h2:=h.pl v hv;have h3:=h.pe v hv;have h4:=hz v;rw[<-h2.2]at h4;simp only[rL,Bool.or_eq_false_iff,fL];omega
theorem Inv.put{k:aA}{sz:List Int}(hz:∀v,0<=jT sz v/\jT sz v<=4096)(hn:k.values.es.length<=20){D:Nat->Prop}{s:PS}(h:Inv k sz D s){v:Nat}{o:Int}(hd:¬D v)(hv:v<k.values.es.length)
  (h0:0<=o) (h1:o<=s.2) (hi:v<k.inputs.toNat->0<jT sz v->o=SS sz v)
  (H:∀(u:Nat)(a b:Sp),D u->u≠v->(aF k)[u]?=some a->(aF k)[v]?=some b->lX (plc s.1 u) (o,jT sz v)=true->(a.1<=b.1->b.1<=a.2->Exc k u a b/\(plc s.1 u).1=o)/\¬(b.1<=a.1/\a.1<=b.2)) :
  Inv k sz (λw=>D w\/w=v) (B1 sz s v o):=by
 have hsm:=h.sm hz hn;have hzv:=hz v;have hvl:v<s.1.length:=by rw[h.len];exact hv
 have e0:en (o,jT sz v)=o+jT sz v:=aJE (by omega) (by omega) hzv.1 (by omega);have eq:plc (B1 sz s v o).1 v=(o,jT sz v):=P1 hvl;have ne:∀w,D w->plc (B1 sz s v o).1 w=plc s.1 w:=λw hw=>DL (λe=>hd (e ▸ hw));have hp2:(B1 sz s v o).2=mxI s.2 (o+jT sz v):=by rw[<-e0];rfl
 have hmx:=aJm s.2 (o+jT sz v);have hnn:=h.nn;have hup:=h.up;refine⟨by rw[YQ];exact h.len,?_,?_,?_,?_,by omega,?_,?_⟩;rintro w (hw|rfl);rw[ne w hw];exact h.pl w hw;rw[eq];exact⟨h0,rfl⟩;intro w hw;rw[DL (λe=>hw (.inr e.symm))];exact h.no w (λx=>hw (.inl x));rintro x w a b (hx|rfl) (hw|rfl) hne ha hb h2 h3 hm;rw[ne x hx,ne w hw]at hm ⊢;exact h.dj x w a b hx hw hne ha hb h2 h3 hm;rw[ne x hx,eq]at hm ⊢;exact(H x a b hx hne ha hb hm).1 h2 h3;rw[ne w hw,eq,QA]at hm;exact absurd ⟨h2,h3⟩ (H w b a hw (λe=>hne e.symm) hb ha hm).2;exact absurd rfl hne;rintro w (hw|rfl);rw[ne w hw,hp2];have:=h.pe w hw;omega;rw[eq,hp2];exact hmx.2;have hs2:S2 (B1 sz s v o).1=S2 s.1+jT sz v:=aCh s.1 v (o,jT sz v) hvl (by rw[h.no v hd]);rw[hs2,hp2];rcases aIK s.2 (o+jT sz v) with e|e<;>rw[e]<;>omega;rintro w hwi (hw|rfl) hws;rw[ne w hw];exact h.inp w hwi hw hws;rw[eq];exact hi hwi hws
end
section
theorem aCW{sp:List Sp}{n:Nat}{a:Sp}(h:sp[n]?=some a):frm sp n=some a.1:=by rw[frm,h];rfl
end
end Go.Tev
