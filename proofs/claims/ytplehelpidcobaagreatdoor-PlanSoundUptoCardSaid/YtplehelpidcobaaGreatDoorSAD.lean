import Derived.Test.YtplehelpidcobaaGreatDoorSAC
import Derived.Laws.AppendOwn
import Derived.MapKept
set_option linter.all false
section
namespace Go.Tev
open Go.RowKit
section
variable{P:Program}
theorem CS{tys:Array TypeId}{ty t u e:TypeId}{d:TypeDesc}{i:TypeInfo}{x':Value}{b off sLen sCap n:Nat}{cc:List Value}(w:World)(h0:tys[0]?=some t)(h1:tys[1]?=some u)
  (ht:P.underlying t=some (.slice e)) (hu:P.underlying u=some d) (hd:d = .string\/∃e',d = .slice e') (hi:P.info? e=some i) (hl:(Builtin.lenOf x').run P w = .ok n w) (hf:(Builtin.firstCells i.size n x').run P w = .ok cc.toArray w)
  (hroom:sLen+n<=sCap) (hst:(storeCells ⟨b,off+sLen*i.size,none⟩ cc).run P w = .ok () (w.setCells b (off+sLen*i.size) cc)) :
  (Builtin.append_ tys ty #[.slice (some ⟨b,off,none⟩) sLen sCap,x']).run P w = .ok (.slice (some ⟨b,off,none⟩) (sLen+n) sCap) (w.setCells b (off+sLen*i.size) cc):=by
 rcases hd with rfl|⟨e',rfl⟩ <;>
  simp[Builtin.append_,h0,h1,run_underlying ht,run_underlying hu,sizeOf,typeInfo,hi,hl,hroom,hf,gD,hst]
theorem CT{tys:Array TypeId}{ty t u e:TypeId}{d:TypeDesc}{i:TypeInfo}{x':Value}(w:World)(h0:tys[0]?=some t)(h1:tys[1]?=some u)
  (ht:P.underlying t=some (.slice e)) (hu:P.underlying u=some d) (hd:d = .string\/∃e',d = .slice e') (hi:P.info? e=some i) (hl:(Builtin.lenOf x').run P w = .ok 0 w) (hf:(Builtin.firstCells i.size 0 x').run P w = .ok #[] w) :
  (Builtin.append_ tys ty #[.slice none 0 0,x']).run P w = .ok (.slice none 0 0) w:=by
 rcases hd with rfl|⟨e',rfl⟩ <;>
  simp[Builtin.append_,h0,h1,run_underlying ht,run_underlying hu,sizeOf,typeInfo,hi,hl,hf]
theorem CR{tys:Array TypeId}{ty t u e:TypeId}{d:TypeDesc}{i:TypeInfo}{x':Value}{a:Addr}{sLen sCap:Nat}(w:World)(h0:tys[0]?=some t)(h1:tys[1]?=some u)
  (ht:P.underlying t=some (.slice e)) (hu:P.underlying u=some d) (hd:d = .string\/∃e',d = .slice e') (hi:P.info? e=some i) (hl:(Builtin.lenOf x').run P w = .ok 0 w) (hf:(Builtin.firstCells i.size 0 x').run P w = .ok #[] w)
  (hroom:sLen<=sCap):(Builtin.append_ tys ty #[.slice (some a) sLen sCap,x']).run P w = .ok (.slice (some a) sLen sCap) w:=by
 rcases hd with rfl|⟨e',rfl⟩ <;>
  simp[Builtin.append_,h0,h1,run_underlying ht,run_underlying hu,sizeOf,typeInfo,hi,hl,hroom,hf,storeCells]
theorem CN{tys:Array TypeId}{ty t u e:TypeId}{ki kv:IntKind}{i:TypeInfo}{a:Addr}{sLen sCap:Nat}(w:World)(h0:tys[0]?=some t)(h1:tys[1]?=some u)
  (ht:P.underlying t=some (.slice e)) (hu:P.underlying u=some (.int ki)) (hi:P.info? e=some i)
  (hroom:sLen<=sCap):(Builtin.append_ tys ty #[.slice (some a) sLen sCap,.int kv ((0:Nat):Int)]).run P w = .ok (.slice (some a) sLen sCap) w:=by
 have wl:IntKind.i64.wrap ((0:Nat):Int)=0:=by rw[IntKind.wrap_i64];omega
 simp[Builtin.append_,h0,h1,run_underlying ht,run_underlying hu,sizeOf,typeInfo,hi,asInt,asIntOf,wl,hroom,storeCells]
 try simp_all
theorem CU{tys:Array TypeId}{ty t u e:TypeId}{d:TypeDesc}{i:TypeInfo}{z:Value}{x':Value}{a:Option Addr}{sLen sCap n:Nat}{cc oc:List Value}(w:World)(h0:tys[0]?=some t)(h1:tys[1]?=some u)
  (ht:P.underlying t=some (.slice e)) (hu:P.underlying u=some d) (hd:d = .string\/∃e',d = .slice e') (hi:P.info? e=some i) (hz:i.zero=some z) (hl:(Builtin.lenOf x').run P w = .ok n w)
  (hf:(Builtin.firstCells i.size n x').run P w.drew = .ok cc.toArray w.drew) (hfo:(Builtin.firstCells i.size sLen (.slice a sLen sCap)).run P w.drew = .ok oc.toArray w.drew)
  (hg:sCap<sLen+n) (hm:sLen+n<=1073741824) (hb:i.bytes<=65536) :
  (Builtin.append_ tys ty #[.slice a sLen sCap,x']).run P w = .ok (.slice (some ⟨w.heap.size,0,none⟩) (sLen+n) (grownCap w (sLen+n) sCap e))
   (w.drew.alloc (.cells (oc++cc++(Builtin.zeroCells z.cells (grownCap w (sLen+n) sCap e-(sLen+n))).toList).toArray e)):=by
 have hn:¬(sLen+n<=sCap):=by omega
 have h63':¬(9223372036854775807<((sLen:Int)+(n:Int))):=by omega
 have hfit:Builtin.nextslicecap (sLen+n) sCap*i.bytes<=281474976710656:=growslice_fits hg (by
  have:(sLen+n)*i.bytes<=1073741824*65536:=Nat.mul_le_mul hm hb
  omega)
 have h48':¬(281474976710656<Builtin.nextslicecap (sLen+n) sCap*i.bytes):=by omega
 rcases hd with rfl|⟨e',rfl⟩ <;>
  (simp[Builtin.append_,h0,h1,run_underlying ht,run_underlying hu,sizeOf,typeInfo,zeroValue,hi,hz,hl,hn,h63',h48',Question.forced,hf,hfo,newRow,grownCap]
   try (congr 2;apply Array.ext';simp[List.append_assoc]))
theorem CO{tys:Array TypeId}{ty t u e:TypeId}{ki kv:IntKind}{i:TypeInfo}{z:Value}{b off sLen sCap n:Nat}(w:World)(h0:tys[0]?=some t)(h1:tys[1]?=some u)
  (ht:P.underlying t=some (.slice e)) (hu:P.underlying u=some (.int ki)) (hi:P.info? e=some i) (hz:i.zero=some z) (hnm:n<=1073741824) (hb:i.bytes<=65536)
  (hroom:sLen+n<=sCap) (hcells:z.cells.size=i.size)
  (hst:(storeCells ⟨b,off+sLen*i.size,none⟩ (Builtin.zeroCells z.cells n).toList).run P w = .ok () (w.setCells b (off+sLen*i.size) (Builtin.zeroCells z.cells n).toList)) :
  (Builtin.append_ tys ty #[.slice (some ⟨b,off,none⟩) sLen sCap,.int kv (n:Int)]).run P w = .ok (.slice (some ⟨b,off,none⟩) (sLen+n) sCap) (w.setCells b (off+sLen*i.size) (Builtin.zeroCells z.cells n).toList):=by
 have wl:IntKind.i64.wrap (n:Int)=n:=by rw[IntKind.wrap_i64];omega
 have n1:¬(n:Int)<0:=by omega
 have n2:¬(281474976710656<(n:Int)*(i.bytes:Int)):=by
  have:n*i.bytes<=1073741824*65536:=Nat.mul_le_mul hnm hb
  have h3:((n*i.bytes:Nat):Int)<=281474976710656:=by omega
  rw[Int.natCast_mul]at h3;omega
 by_cases hn:n*i.size=0
 ·have he:Builtin.zeroCells z.cells n = #[]:=by
   apply Array.eq_empty_of_size_eq_zero;rw[size_zeroCells,hcells];exact hn
  rw[he]at hst ⊢
  simp[Builtin.append_,h0,h1,run_underlying ht,run_underlying hu,sizeOf,typeInfo,hi,asInt,asIntOf,wl,n1,n2,hroom,hn,gD]
  simp at hst ⊢
  simp[hst]
 ·simp[Builtin.append_,h0,h1,run_underlying ht,run_underlying hu,sizeOf,typeInfo,zeroValue,hz,hi,asInt,asIntOf,wl,n1,n2,hroom,hn,gD,hst]
theorem CP{tys:Array TypeId}{ty t u e:TypeId}{ki kv:IntKind}{i:TypeInfo}(w:World)(h0:tys[0]?=some t)(h1:tys[1]?=some u)
  (ht:P.underlying t=some (.slice e)) (hu:P.underlying u=some (.int ki)) (hi:P.info? e=some i) :
  (Builtin.append_ tys ty #[.slice none 0 0,.int kv 0]).run P w = .ok (.slice none 0 0) w:=by
 have wl:IntKind.i64.wrap 0=0:=by decide
 simp[Builtin.append_,h0,h1,run_underlying ht,run_underlying hu,sizeOf,typeInfo,hi,asInt,asIntOf,wl]
theorem CQ{tys:Array TypeId}{ty t u e:TypeId}{ki kv:IntKind}{i:TypeInfo}{z:Value}{a:Option Addr}{sLen sCap n:Nat}{oc:List Value}(w:World)(h0:tys[0]?=some t)(h1:tys[1]?=some u)
  (ht:P.underlying t=some (.slice e)) (hu:P.underlying u=some (.int ki)) (hi:P.info? e=some i) (hz:i.zero=some z) (hcells:z.cells.size=i.size)
  (hfo:(Builtin.firstCells i.size sLen (.slice a sLen sCap)).run P w.drew = .ok oc.toArray w.drew)
  (hg:sCap<sLen+n) (hm:sLen+n<=1073741824) (hb:i.bytes<=65536) :
  (Builtin.append_ tys ty #[.slice a sLen sCap,.int kv (n:Int)]).run P w = .ok (.slice (some ⟨w.heap.size,0,none⟩) (sLen+n) (grownCap w (sLen+n) sCap e))
   (w.drew.alloc (.cells (oc++(Builtin.zeroCells z.cells n).toList++(Builtin.zeroCells z.cells (grownCap w (sLen+n) sCap e-(sLen+n))).toList).toArray e)):=by
 have hn:¬(sLen+n<=sCap):=by omega
 have wl:IntKind.i64.wrap (n:Int)=n:=by rw[IntKind.wrap_i64];omega
 have n1:¬(n:Int)<0:=by omega
 have n2:¬(281474976710656<(n:Int)*(i.bytes:Int)):=by
  have:n*i.bytes<=1073741824*65536:=Nat.mul_le_mul (by omega) hb
  have h3:((n*i.bytes:Nat):Int)<=281474976710656:=by omega
  rw[Int.natCast_mul]at h3;omega
 have h63':¬(9223372036854775807<((sLen:Int)+(n:Int))):=by omega
 have hfit:Builtin.nextslicecap (sLen+n) sCap*i.bytes<=281474976710656:=growslice_fits hg (by
  have:(sLen+n)*i.bytes<=1073741824*65536:=Nat.mul_le_mul hm hb
  omega)
 have h48':¬(281474976710656<Builtin.nextslicecap (sLen+n) sCap*i.bytes):=by omega
 by_cases hn0:n*i.size=0
 ·have he:Builtin.zeroCells z.cells n = #[]:=by
   apply Array.eq_empty_of_size_eq_zero;rw[size_zeroCells,hcells];exact hn0
  rw[he]
  simp[Builtin.append_,h0,h1,run_underlying ht,run_underlying hu,sizeOf,typeInfo,zeroValue,hi,hz,asInt,asIntOf,wl,n1,n2,hn,h63',h48',Question.forced,hfo,newRow,grownCap,hn0]
  congr 2;apply Array.ext';simp
 ·simp[Builtin.append_,h0,h1,run_underlying ht,run_underlying hu,sizeOf,typeInfo,zeroValue,hi,hz,asInt,asIntOf,wl,n1,n2,hn,h63',h48',Question.forced,hfo,newRow,grownCap,hn0]
  try (congr 2;apply Array.ext';simp[List.append_assoc])
end
section
variable{P:Program}{num:Nm}{Fb:Nat->Prop}{B0:Nat}{ρ : Rho}{w:World}{O:Nat->Prop}{h:Hp}{ρv:Operand->Value}{o:Oper}
theorem AB(H:HpR num Fb B0 ρ w O h){k0 esz:Nat}{ag:Bool}{bytes:Nat}{x:AV}{src:List AV}{n:Nat}{rd:List Nat}{v:AV}{eff:Eff}{run:Result Value}{x':Value}{cc:List Value}{e:TypeId}{z:Array Value}
  (hx:Rv num ρ w (fun b=>Fb b\/O b) x x') (h1:kL h k0 esz ag bytes x src n rd=some (v,eff)) (hall:aL (Rv num ρ w (fun b=>Fb b\/O b)) src cc) (hlen:src.length=n*esz) (hone:bU src=true)
  (hzsz:z.size=esz)
  (hnil:n=0->x' = .slice none 0 0->run = .ok (.slice none 0 0) w)
  (hzer:∀a sLen sCap,n=0->x' = .slice (some a) sLen sCap->sLen<=sCap->run = .ok (.slice (some a) sLen sCap) w)
  (hroom:∀b off sLen sCap,x' = .slice (some ⟨b,off,none⟩) sLen sCap->sLen+n<=sCap->(storeCells ⟨b,off+sLen*esz,none⟩ cc).run P w = .ok () (w.setCells b (off+sLen*esz) cc) ->
   run = .ok (.slice (some ⟨b,off,none⟩) (sLen+n) sCap) (w.setCells b (off+sLen*esz) cc))
  (hgrow:∀a sLen sCap oc,x' = .slice a sLen sCap->sCap<sLen+n->sLen+n<=1073741824->bytes<=65536->(∀i:TypeInfo,i.size=esz->(Builtin.firstCells i.size sLen (.slice a sLen sCap)).run P w.drew = .ok oc.toArray w.drew) ->
   run = .ok (.slice (some ⟨w.heap.size,0,none⟩) (sLen+n) (grownCap w (sLen+n) sCap e)) (w.drew.alloc (.cells (oc++cc++(Builtin.zeroCells z (grownCap w (sLen+n) sCap e-(sLen+n))).toList).toArray e))) :
  ∃cv w' ρ' O',run = .ok cv w'/\Evo ρ w O ρ' w' O'/\HpR num Fb B0 ρ' w' O' (eff.app h)/\Rv num ρ' w' (fun b=>Fb b\/O' b) v cv:=by
 unfold kL at h1
 split at h1
 ·
  rename_i nl es cl
  split at h1
  ·rename_i hn;subst hn
   cases h1
   have hcc:cc=[]:=by
    have h2:=hall.length
    simp at hlen
    rw[hlen]at h2
    exact List.eq_nil_of_length_eq_zero (by simpa using h2.symm)
   subst hcc
   cases nl with
   |true=>
    obtain⟨rfl,hx'⟩:=hx.of_nsl
    exact⟨_,w,ρ,O,hnil rfl hx',Evo.refl _ _ _,H,.nsl _⟩
   |false=>
    have hx2:=hx
    obtain⟨b,off,cap,sz,m,sp,hx',hsp,hc,_⟩:=hx.of_sl
    have:=hzer _ es.length cap rfl hx' (by omega)
    refine⟨x',w,ρ,O,by rw[this,hx'],Evo.refl _ _ _,H,hx2⟩
  ·rename_i hn
   split at h1
   case isFalse=>cases h1
   rename_i hc
   simp only[Bool.and_eq_true,decide_eq_true_eq]at hc
   obtain⟨⟨hcl,hm⟩,hb⟩:=hc
   split at h1
   case h_2=>cases h1
   rename_i ec hec
   cases h1
   obtain⟨rfl,hfits⟩:=mO hec
   have hfl:(eZ es).length=es.length*esz:=iX (fun i u hu=>(AV.fits_cells (hfits i u hu).1).1)
   have hsrc:aP h esz ag (.sl nl es cl)=some (eZ es,es.length,[]):=by simp[aP,hec]
   obtain⟨oc,hoall,holen,hoone,hocase⟩:=rL H hx hsrc
   have hcap:∃a cap,x' = .slice a es.length cap/\cap<es.length+n/\(∀i:TypeInfo,i.size=esz->(Builtin.firstCells i.size es.length (.slice a es.length cap)).run P w.drew = .ok oc.toArray w.drew):=by
    rcases hocase with ⟨⟨p,cap,hx'⟩,h0⟩|⟨b,off,cap,hx',hcell⟩|⟨s,hx',_⟩
    ·have:oc=[]:=by
      have h2:=hoall.length
      rw[holen,h0]at h2
      exact List.eq_nil_of_length_eq_zero (by simpa using h2.symm)
     subst this
     rw[h0]
     refine⟨p,cap,hx',?_,fun i hi=>?_⟩
     ·cases nl with
      |true=>obtain⟨_,q⟩:=hx.of_nsl;rw[hx']at q;cases q;omega
      |false=>
       obtain⟨_,_,cap',_,_,_,q,_,_,hcl',_⟩:=hx.of_sl
       have:=hcl' (by simpa using hcl)
       rw[hx',h0]at q
       injection q with _ _ q3
       omega
     ·cases p with
      |none=>rw[run_firstCells_none]
      |some a=>exact run_firstCells_some w.drew i.size 0 a 0 cap [] (by simp) (by simp)
    ·refine⟨some ⟨b,off,none⟩,cap,hx',?_,fun i hi=>?_⟩
     ·cases nl with
      |true=>obtain⟨_,q⟩:=hx.of_nsl;rw[hx']at q;cases q
      |false=>
       obtain⟨_,_,cap',_,_,_,q,_,_,hcl',_⟩:=hx.of_sl
       rw[hx']at q;cases q
       have:=hcl' (by simpa using hcl)
       omega
     ·exact run_firstCells_some w.drew i.size es.length _ _ _ oc (by have:=hoall.length;rw[hi];omega) (fun j u hj=>by rw[gD];exact hcell j u hj)
    ·cases nl with
     |true=>obtain⟨_,q⟩:=hx.of_nsl;rw[hx']at q;cases q
     |false=>obtain⟨_,_,cap',_,_,_,q,_⟩:=hx.of_sl;rw[hx']at q;cases q
   obtain⟨a,cap,hx',hlt,hfo⟩:=hcap
   have hrun:=hgrow a es.length cap oc hx' hlt hm hb hfo
   have hcat:aL (Rv num ρ w (fun b=>Fb b\/O b)) (eZ es++src) (oc++cc):=hoall.append hall
   have hcl2:(eZ es++src).length=(es.length+n)*esz:=by rw[List.length_append,hfl,hlen,Nat.add_mul]
   have hge:=rC w (es.length+n) cap e
   generalize hG:grownCap w (es.length+n) cap e=G at *
   have hsize:(oc++cc++(Builtin.zeroCells z (G-(es.length+n))).toList).toArray.size=G*esz:=by
    have h2:=hcat.length
    rw[hcl2]at h2
    have:(Builtin.zeroCells z (G-(es.length+n))).size=(G-(es.length+n))*esz:=by rw[size_zeroCells,hzsz]
    simp only[List.size_toArray,List.length_append,Array.length_toList]at h2 ⊢
    rw[this,<-h2,<-Nat.add_mul]
    congr 1;omega
   obtain⟨ev,H'⟩:=H.new (k:=k0) (cs:=eZ es++src) (esz:=esz) (ag:=ag) (ti:=false) (c:=(oc++cc++(Builtin.zeroCells z (G-(es.length+n))).toList).toArray) (T:=e) (G*esz) (iH w _) (by omega)
    (by rw[hcl2];exact Nat.mul_le_mul_right _ hge) (fun i y hy=>by
     have hi:i<(oc++cc).length:=by
      have h2:=hcat.length
      rcases Nat.lt_or_ge i (eZ es++src).length with q|q
      ·omega
      ·simp[List.getElem?_eq_none q]at hy
     refine⟨(oc++cc)[i],?_,hcat.get i y _ hy (by simp[hi])⟩
     rw[List.getElem?_toArray,List.getElem?_append_left hi,List.getElem?_eq_getElem hi])
   refine⟨_,_,_,_,hrun,ev,H',?_⟩
   exact .rf _ _ _ _ _ _ _ (Rho.set_same _ _ _ _) (Nat.le_refl _) hge (fun q=>by cases q) (by simp)
 ·
  rename_i k e' off len cap
  split at h1
  case h_2=>cases h1
  rename_i e'' cs esz' ag' ti fz hgk
  split at h1
  case isFalse=>cases h1
  rename_i hc
  obtain⟨rfl,rfl,rfl,hle⟩:=hc
  obtain⟨cap',L,hx',hL,hlc,hcc',htt,hrm⟩:=hx.of_rf
  obtain⟨L0,c,T,q1,q2,q3,q4,q5,q6,q7,q8,q9,q10⟩:=H.blk _ _ _ _ _ _ _ hgk
  rw[hL]at q1;cases q1
  rw[q3]at hrm
  have hclen:cc.length=n*esz':=by have:=hall.length;omega
  have honec:∀u∈cc,u.oneCell'=true:=by
   intro u hu
   obtain⟨j,hj⟩:=List.getElem?_of_mem hu
   have hjl:j<src.length:=by
    have:=(List.getElem?_eq_some_iff.1 hj).1
    have:=hall.length;omega
   exact(hall.get j src[j] u (by simp[hjl]) hj).one_cell (pX hone j _ (by simp[hjl]))
  have inplace:len+n<=cap'->fz=false->∃c',run = .ok (.slice (some ⟨L.b,L.base+off,none⟩) (len+n) cap') (w.setCells L.b (L.base+off+len*esz') cc) /\
    jC w (w.setCells L.b (L.base+off+len*esz') cc) L.b (.cells c' T (0,0))/\c'.size=c.size /\
    ∀i,c'[i]?=if L.base+off+len*esz'<=i/\i<L.base+off+len*esz'+cc.length then cc[i-(L.base+off+len*esz')]? else c[i]?:=by
   intro hle2 _
   have hmul:(len+n)*esz'<=cap'*esz':=Nat.mul_le_mul_right _ hle2
   rw[Nat.add_mul]at hmul
   have hfit:L.base+off+len*esz'+cc.length<=c.size:=by omega
   have hst:=run_storeCells_cells (P:=P) L.b (L.base+off+len*esz') cc 0 w (by
    intro j hj
    have:L.base+off+len*esz'+j<c.size:=by omega
    simp[World.cell?,q4,this]) (by intro j hj;simp[World.frozen?,q4]) honec
   simp only[Nat.add_zero]at hst
   obtain⟨c',t1,t2,t3⟩:=nK L.b T cc (L.base+off+len*esz') w c q4 hfit
   exact⟨c',hroom _ _ _ _ hx' hle2 hst,t1,t2,t3⟩
  have grow:cap' < len+n->len+n<=1073741824->bytes<=65536->∃oc G,len+n<=G/\run = .ok (.slice (some ⟨w.heap.size,0,none⟩) (len+n) G) (w.drew.alloc (.cells (oc++cc++(Builtin.zeroCells z (G-(len+n))).toList).toArray e)) /\
    aL (Rv num ρ w (fun b=>Fb b\/O b)) ((cs.drop off).take (len*esz')++src) (oc++cc)/\(oc++cc++(Builtin.zeroCells z (G-(len+n))).toList).toArray.size=G*esz':=by
   intro hlt hm hb
   have holen:((cs.drop off).take (len*esz')).length=len*esz':=by simp;omega
   have hoall:aL (Rv num ρ w (fun b=>Fb b\/O b)) ((cs.drop off).take (len*esz')) ((List.range (len*esz')).map fun i=>c.getD (L.base+off+i) undef):=by
    refine aL.of_get (by simp;omega) ?_
    intro i x y hx' hy'
    rw[List.getElem?_take]at hx'
    split at hx'
    case isFalse=>cases hx'
    rename_i hi
    rw[List.getElem?_drop]at hx'
    simp[hi]at hy'
    subst hy'
    obtain⟨y,hy,hr⟩:=q7 _ _ hx'
    rw[<-Nat.add_assoc]at hy
    simp[hy]
    exact hr
   have hfo:∀i:TypeInfo,i.size=esz'->(Builtin.firstCells i.size len (.slice (some ⟨L.b,L.base+off,none⟩) len cap')).run P w.drew = .ok ((List.range (len*esz')).map fun i=>c.getD (L.base+off+i) undef).toArray w.drew:=by
    intro i hi
    refine run_firstCells_some w.drew i.size len _ _ _ _ (by simp[hi]) (fun j u hj=>?_)
    rw[gD]
    have hji:j<len*esz':=by
     have:=(List.getElem?_eq_some_iff.1 hj).1
     simpa using this
    simp[hji]at hj
    have hlt:L.base+off+j<c.size:=by omega
    have hh:w.drew.heap[L.b]?=some (.cells c T (0,0)):=q4
    simp only[World.cell?,hh,Option.isSome_none,Bool.false_eq_true,if_false]
    simp[hlt]
    simpa[hlt] using hj
   have hrun:=hgrow _ len cap' _ hx' hlt hm hb hfo
   have hcat:=hoall.append hall
   have hge:=rC w (len+n) cap' e
   refine⟨_,_,hge,hrun,hcat,?_⟩
   generalize hG:grownCap w (len+n) cap' e=G at *
   have:(Builtin.zeroCells z (G-(len+n))).size=(G-(len+n))*esz':=by rw[size_zeroCells,hzsz]
   simp only[List.size_toArray,List.length_append,Array.length_toList,List.length_map,List.length_range]
   rw[this,hclen,<-Nat.add_mul,<-Nat.add_mul]
   congr 1;omega
  have freshNew:∀(h':Hp)(H0:HpR num Fb B0 ρ w O h')(oc:List Value)(G:Nat),len+n<=G->aL (Rv num ρ w (fun b=>Fb b\/O b)) ((cs.drop off).take (len*esz')++src) (oc++cc) ->
    (oc++cc++(Builtin.zeroCells z (G-(len+n))).toList).toArray.size=G*esz' ->
    ∃ ρ' O',Evo ρ w O ρ' (w.drew.alloc (.cells (oc++cc++(Builtin.zeroCells z (G-(len+n))).toList).toArray e)) O' /\
     HpR num Fb B0 ρ' (w.drew.alloc (.cells (oc++cc++(Builtin.zeroCells z (G-(len+n))).toList).toArray e)) O' (h'.put k0 (h'.next k0) (.blk ((cs.drop off).take (len*esz')++src) esz' ag' false false)) /\
     Rv num ρ' (w.drew.alloc (.cells (oc++cc++(Builtin.zeroCells z (G-(len+n))).toList).toArray e)) (fun b=>Fb b\/O' b) (.rf k0 (h'.next k0) 0 (len+n) (len+n)) (.slice (some ⟨w.heap.size,0,none⟩) (len+n) G):=by
   intro h' H0 oc G hge hcat hsize
   have hcl2:((cs.drop off).take (len*esz')++src).length=(len+n)*esz':=by
    rw[List.length_append,hlen,Nat.add_mul]
    have:((cs.drop off).take (len*esz')).length=len*esz':=by simp;omega
    omega
   obtain⟨ev,H'⟩:=H0.new (k:=k0) (cs:=(cs.drop off).take (len*esz')++src) (esz:=esz') (ag:=ag') (ti:=false) (c:=(oc++cc++(Builtin.zeroCells z (G-(len+n))).toList).toArray) (T:=e) (G*esz') (iH w _) (by omega)
    (by rw[hcl2];exact Nat.mul_le_mul_right _ hge) (fun i y hy=>by
     have hi:i<(oc++cc).length:=by
      have h2:=hcat.length
      rcases Nat.lt_or_ge i ((cs.drop off).take (len*esz')++src).length with q|q
      ·omega
      ·simp only[List.getElem?_eq_none q]at hy;cases hy
     refine⟨(oc++cc)[i],?_,hcat.get i y _ hy (by simp[hi])⟩
     rw[List.getElem?_toArray,List.getElem?_append_left hi,List.getElem?_eq_getElem hi])
   exact⟨_,_,ev,H',.rf _ _ _ _ _ _ _ (Rho.set_same _ _ _ _) (Nat.le_refl _) hge (fun q=>by cases q) (by simp)⟩
  split at h1
  ·rename_i hn;subst hn
   cases h1
   have hcc0:cc=[]:=List.eq_nil_of_length_eq_zero (by simpa using hclen)
   subst hcc0
   have:=hroom _ _ _ _ hx' (by omega) rfl
   exact⟨x',w,ρ,O,by rw[this,hx'];rfl,Evo.refl _ _ _,H,hx⟩
  ·rename_i hn
   split at h1
   ·
    rename_i hle2
    split at h1
    ·cases h1
    ·rename_i hfz
     cases h1
     have hfz':fz=false:=by simpa using hfz
     subst hfz'
     obtain⟨c',hrun,ht,hs,hgc⟩:=inplace (by omega) rfl
     have hmul:(len+n)*esz'<=cap'*esz':=Nat.mul_le_mul_right _ (by omega)
     rw[Nat.add_mul]at hmul
     obtain⟨ev,H'⟩:=H.write hgk hL ht (cs':=dJ cs (off+len*esz') src) (by omega) (by rw[lK _ _ _ (by omega)];omega) (by
      intro i x hx
      rw[pS _ _ _ (by omega)]at hx
      rw[hgc]
      by_cases a1:i<off+len*esz'
      ·rw[if_pos a1]at hx
       obtain⟨y',hy',hr'⟩:=q7 i x hx
       rw[if_neg (by omega)]
       exact⟨y',hy',hr'⟩
      ·rw[if_neg a1]at hx
       by_cases a2:i<off+len*esz'+src.length
       ·rw[if_pos a2]at hx
        rw[if_pos (by omega)]
        have hlt:i-(off+len*esz')<cc.length:=by omega
        refine⟨cc[i-(off+len*esz')],?_,hall.get _ _ _ hx (by simp[hlt])⟩
        rw[show L.base+i-(L.base+off+len*esz')=i-(off+len*esz') by omega]
        simp[hlt]
       ·rw[if_neg a2]at hx
        obtain⟨y',hy',hr'⟩:=q7 i x hx
        rw[if_neg (by omega)]
        exact⟨y',hy',hr'⟩)
     exact⟨_,_,_,_,hrun,ev,H',.rf _ _ _ _ _ _ L hL hle2 hcc' htt (by rw[q3];exact hrm)⟩
   ·rename_i hgt
    have move:fz=false->len+n<=cap'->∀(h':Hp),(h'=if k=k0 then h else h.put k e'' .dead)->∃cv w' ρ' O',run = .ok cv w'/\Evo ρ w O ρ' w' O' /\
      HpR num Fb B0 ρ' w' O' (h'.put k0 (h.next k0) (.blk ((cs.drop off).take (len*esz')++src) esz' ag' false false))/\Rv num ρ' w' (fun b=>Fb b\/O' b) (.rf k0 (h.next k0) 0 (len+n) (len+n)) cv:=by
     intro hfz hle2 h' hh'
     subst hfz
     obtain⟨c',hrun,ht,hs,hgc⟩:=inplace hle2 rfl
     have hmul:(len+n)*esz'<=cap'*esz':=Nat.mul_le_mul_right _ hle2
     rw[Nat.add_mul]at hmul
     have hcl2:((cs.drop off).take (len*esz')++src).length=len*esz'+n*esz':=by
      rw[List.length_append,hlen]
      have:((cs.drop off).take (len*esz')).length=len*esz':=by simp;omega
      omega
     obtain⟨ev,H'⟩:=H.move (k0:=k0) (off:=off) (cs':=(cs.drop off).take (len*esz')++src) (ag':=ag') hgk hL ht (by omega) (by omega) (by omega) (by
      intro i x hx
      rw[hgc]
      rw[List.getElem?_append]at hx
      have htl:((cs.drop off).take (len*esz')).length=len*esz':=by simp;omega
      rw[htl]at hx
      split at hx
      ·rename_i hi
       rw[List.getElem?_take,if_pos hi,List.getElem?_drop]at hx
       obtain⟨y',hy',hr'⟩:=q7 _ x hx
       rw[if_neg (by omega)]
       rw[<-Nat.add_assoc]at hy'
       exact⟨y',hy',hr'⟩
      ·rename_i hi
       have hil:i-len*esz' < src.length:=by
        rcases Nat.lt_or_ge (i-len*esz') src.length with q|q
        ·exact q
        ·rw[List.getElem?_eq_none q]at hx;cases hx
       rw[if_pos (by omega)]
       have hlt:i-len*esz' < cc.length:=by omega
       refine⟨cc[i-len*esz'],?_,hall.get _ _ _ hx (by simp[hlt])⟩
       rw[show L.base+off+i-(L.base+off+len*esz')=i-len*esz' by omega]
       simp[hlt]) h' hh' (h.next k0) rfl
     refine⟨_,_,_,_,hrun,ev,H',?_⟩
     have:=Rv.rf (num:=num) (w:=w.setCells L.b (L.base+off+len*esz') cc) (F:=fun b=>Fb b\/O b) k0 (h.next k0) 0 (len+n) (len+n) cap' _ (Rho.set_same ρ k0 (h.next k0) ⟨L.b,L.base+off,L.room-off,false,esz'⟩) (Nat.le_refl _) hle2 (fun q=>by cases q) (by simp;omega)
     simpa using this
    split at h1
    ·rename_i hc
     simp only[Bool.and_eq_true,decide_eq_true_eq,Bool.not_eq_true',beq_eq_false_iff_ne]at hc
     obtain⟨⟨hm,hb⟩,hkk⟩:=hc
     split at h1
     ·rename_i hti
      cases h1
      have hcap:=htt (by rw[q2];exact hti)
      obtain⟨oc,G,hge,hrun,hcat,hsize⟩:=grow (by omega) hm hb
      obtain⟨ρ',O',ev,H',hr⟩:=freshNew h H oc G hge hcat hsize
      exact⟨_,_,ρ',O',hrun,ev,H',hr⟩
     ·split at h1
      ·cases h1
      ·rename_i hti hfz
       cases h1
       have hfz':fz=false:=by simpa using hfz
       have hnk:(h.put k e'' .dead).next k0=h.next k0:=by simp[Hp.next,aH,hkk]
       by_cases hle2:len+n<=cap'
       ·obtain⟨cv,w',ρ',O',r1,r2,r3,r4⟩:=move hfz' hle2 _ rfl
        rw[if_neg hkk]at r3
        exact⟨cv,w',ρ',O',r1,r2,r3,r4⟩
       ·obtain⟨oc,G,hge,hrun,hcat,hsize⟩:=grow (by omega) hm hb
        obtain⟨ρ',O',ev,H',hr⟩:=freshNew (h.put k e'' .dead) (H.kill hgk) oc G hge hcat hsize
        rw[hnk]at H' hr
        exact⟨_,_,ρ',O',hrun,ev,H',hr⟩
    ·split at h1
     ·rename_i hnc hc
      simp only[Bool.and_eq_true,decide_eq_true_eq,Bool.not_eq_true']at hc
      obtain⟨⟨hm,hb⟩,hfz⟩:=hc
      cases h1
      have hkk:k=k0:=by
       rcases Nat.decEq k k0 with q|q
       ·exfalso;apply hnc;simp[hm,hb,q]
       ·exact q
      subst hkk
      have hnx:h.next k=e''+1:=by simp[Hp.next,hgk]
      by_cases hle2:len+n<=cap'
      ·obtain⟨cv,w',ρ',O',r1,r2,r3,r4⟩:=move hfz hle2 _ rfl
       rw[if_pos rfl,hnx]at r3
       rw[hnx]at r4
       exact⟨cv,w',ρ',O',r1,r2,r3,r4⟩
      ·obtain⟨oc,G,hge,hrun,hcat,hsize⟩:=grow (by omega) hm hb
       obtain⟨ρ',O',ev,H',hr⟩:=freshNew h H oc G hge hcat hsize
       rw[hnx]at H' hr
       exact⟨_,_,ρ',O',hrun,ev,H',hr⟩
     ·cases h1
 ·cases h1
end
end Go.Tev
end
section
namespace Go.Tev
open Go.RowKit
section
variable{P:Program}{num:Nm}{Fb:Nat->Prop}{B0:Nat}{ρ : Rho}{w:World}{O:Nat->Prop}{h:Hp}{ρv:Operand->Value}{o:Oper}
theorem x9{esz n:Nat}{y':Value}{cc:List Value}(hcl:cc.length=n*esz)
  (hc:((∃p cap,y' = .slice p 0 cap)/\n=0)\/(∃b off cap,y' = .slice (some ⟨b,off,none⟩) n cap/\∀j v,cc[j]?=some v->w.cell? ⟨b,off+j,none⟩=some v) \/
    (∃s:List UInt8,y' = .string ⟨s.toArray⟩/\esz=1/\n=s.length/\cc=s.map fun b => .int .u8 b.toNat)) (W:World) (hW:W.heap=w.heap) :
  (Builtin.lenOf y').run P W = .ok n W/\(Builtin.firstCells esz n y').run P W = .ok cc.toArray W:=by
 rcases hc with ⟨⟨p,cap,rfl⟩,rfl⟩|⟨b,off,cap,rfl,hcell⟩|⟨s,rfl,rfl,rfl,rfl⟩
 ·have:cc=[]:=List.eq_nil_of_length_eq_zero (by simpa using hcl)
  subst this
  refine⟨rfl,?_⟩
  cases p with
  |none=>rw[run_firstCells_none]
  |some a=>exact run_firstCells_some W esz 0 a 0 cap [] (by simp) (by simp)
 ·refine⟨rfl,run_firstCells_some W esz n _ n cap cc hcl (fun j u hj=>?_)⟩
  rw[gD,mH (w:=w) (by rw[hW])]
  exact hcell j u hj
 ·refine⟨by simp[Builtin.lenOf,ByteArray.size],?_⟩
  simp only[Builtin.firstCells]
  have:((⟨s.toArray⟩:ByteArray).extract 0 s.length).data=s.toArray:=by
   rw[ByteArray.data_extract];simp
  rw[this]
  simp
variable(H:HpR num Fb B0 ρ w O h)
variable{k0:Nat}{l:List Operand}{vs:List AV}{v:AV}{eff:Eff}
variable(hv:aL (Rv num ρ w (fun b=>Fb b\/O b)) vs (l.map ρv))
include H hv
theorem S7(esz:Nat)(ag:Bool)(bytes:Nat)(hf:fitK P num o (.app esz ag bytes)=some l)(h1:op1 h k0 (.app esz ag bytes) vs=some (v,eff)):fE P num Fb B0 ρ w O h ρv o v eff:=by
 simp only[fitK]at hf
 split at hf
 case h_2=>cases hf
 rename_i x y tys ho
 split at hf
 case h_2=>cases hf
 rename_i t u ht0 ht1
 split at hf
 case h_2=>cases hf
 rename_i e hel
 obtain⟨hg,rfl⟩:=aU hf
 simp only[Bool.and_eq_true]at hg
 obtain⟨⟨⟨hft,hfb⟩,hzs⟩,htu⟩:=hg
 obtain⟨a,b,rfl,ha,hb⟩:=hv.two
 obtain⟨cn,hrun⟩:=i6 (P:=P) (ρv := ρv) (w:=w) ho
 have hu:=hY hel
 obtain⟨ie,hie,hsz,_⟩:=fitT_eq hft
 have hby:ie.bytes=bytes:=by simpa[fitB,hie] using hfb
 cases hz:ie.zero with
 |none=>simp[hie,hz]at hzs
 |some z=>
 have hzsz:z.cells.size=esz:=by simpa[hie,hz,hsz] using hzs
 have hdu:∃d,P.underlying u=some d/\(d = .string\/∃e',d = .slice e'):=by
  simp only[Bool.or_eq_true,beq_iff_eq]at htu
  rcases htu with (rfl|hs)|hs
  ·exact⟨_,hu,.inr ⟨_,rfl⟩⟩
  ·exact⟨_,iO hs,.inl rfl⟩
  ·obtain⟨e',he'⟩:=Option.isSome_iff_exists.1 hs
   exact⟨_,hY he',.inr ⟨_,rfl⟩⟩
 obtain⟨d,hdu,hd⟩:=hdu
 simp only[op1]at h1
 split at h1
 case h_2=>cases h1
 rename_i cs n rd hsrc
 obtain⟨cc,hall,hlen,hone,hcase⟩:=rL H hb hsrc
 have hcl:cc.length=n*esz:=by have:=hall.length;omega
 obtain⟨r1,r2⟩:=x9 (P:=P) hcl hcase w rfl
 obtain⟨_,r3⟩:=x9 (P:=P) hcl hcase w.drew rfl
 rw[<-hsz]at r2 r3
 obtain⟨cv,w',ρ',O',hh,ev,H',hr⟩:=AB (P:=P) (z:=z.cells) (e:=e) (run:=(Builtin.append_ tys o.type #[ρv x,ρv y]).run P w) H ha h1 hall hlen hone hzsz
  (by
   intro hn hx
   subst hn
   have hcc:cc=[]:=List.eq_nil_of_length_eq_zero (by simpa using hcl)
   subst hcc
   rw[hx]
   exact CT w ht0 ht1 hu hdu hd hie r1 r2)
  (by
   intro a sLen sCap hn hx hle
   subst hn
   have hcc:cc=[]:=List.eq_nil_of_length_eq_zero (by simpa using hcl)
   subst hcc
   rw[hx]
   exact CR w ht0 ht1 hu hdu hd hie r1 r2 hle)
  (by
   intro b off sLen sCap hx hle hst
   rw[hx]
   rw[<-hsz]at hst ⊢
   exact CS w ht0 ht1 hu hdu hd hie r1 r2 hle hst)
  (by
   intro a sLen sCap oc hx hlt hm hbb hfo
   rw[hx]
   exact CU w ht0 ht1 hu hdu hd hie hz r1 r3 (hfo ie hsz) hlt hm (by rw[hby];exact hbb))
 refine⟨.value cv,cv,w',ρ',O',?_,.inl rfl,ev,H',hr⟩
 rw[hrun]
 simp[builtin,hh]
omit H hv in
theorem DR{F:Nat->Prop}{zero:List AV}{z:Array Value}(hz:aL (Rv num ρ w F) zero z.toList)(n:Nat) :
  aL (Rv num ρ w F) (List.replicate n zero).flatten (Builtin.zeroCells z n).toList:=by
 have hl:z.size=zero.length:=by simpa using hz.length.symm
 refine aL.of_get (by simp[Builtin.zeroCells,hl]) ?_
 intro i x y hx hy
 have hi:i<n*zero.length:=by
  rcases Nat.lt_or_ge i (List.replicate n zero).flatten.length with q|q
  ·simpa using q
  ·simp[List.getElem?_eq_none q]at hx
 have hpos:0<zero.length:=by
  rcases Nat.eq_zero_or_pos zero.length with q|q
  ·simp[q]at hi
  ·exact q
 rw[kU zero n i hi]at hx
 have hm:i % zero.length<zero.length:=Nat.mod_lt _ hpos
 simp[Builtin.zeroCells,hi,hl,hm]at hy
 subst hy
 refine hz.get (i % zero.length) x _ hx ?_
 have:i % zero.length<z.size:=by omega
 simp[this]
theorem S6(esz:Nat)(ag:Bool)(bytes:Nat)(zero:List AV)(hf:fitK P num o (.apz esz ag bytes zero)=some l)(h1:op1 h k0 (.apz esz ag bytes zero) vs=some (v,eff)):fE P num Fb B0 ρ w O h ρv o v eff:=by
 simp only[fitK]at hf
 split at hf
 case h_2=>cases hf
 rename_i x y tys ho
 split at hf
 case h_2=>cases hf
 rename_i t u ht0 ht1
 split at hf
 case h_2=>cases hf
 rename_i e hel
 obtain⟨hg,rfl⟩:=aU hf
 simp only[Bool.and_eq_true]at hg
 obtain⟨⟨⟨hft,hfb⟩,hfz⟩,htu⟩:=hg
 obtain⟨a,b,rfl,ha,hb⟩:=hv.two
 obtain⟨cn,hrun⟩:=i6 (P:=P) (ρv := ρv) (w:=w) ho
 have hu:=hY hel
 obtain⟨ki,hint⟩:=zB htu
 obtain⟨ie,z,hie,hz,hfz'⟩:=fitZ_eq hfz
 obtain⟨ie',hie',hsz,_⟩:=fitT_eq hft
 rw[hie]at hie';cases hie'
 have hby:ie.bytes=bytes:=by simpa[fitB,hie] using hfb
 simp only[op1]at h1
 split at h1
 case h_2=>cases h1
 rename_i kv nn
 split at h1
 case isFalse=>cases h1
 rename_i hc
 obtain⟨h0,hm,hbm,hze,hone⟩:=hc
 obtain⟨n,rfl⟩:=Int.eq_ofNat_of_zero_le h0
 have hzz:aL (Rv num ρ w (fun b=>Fb b\/O b)) zero z.cells.toList:=fitL_sound hfz'
 have hzsz:z.cells.size=esz:=by have:=hzz.length;simp at this;omega
 have hall:=DR hzz n
 have hlen:(List.replicate n zero).flatten.length=n*esz:=by simp[hze]
 have hone':bU (List.replicate n zero).flatten=true:=by
  have:∀m:Nat,bU (List.replicate m zero).flatten=true:=by
   intro m
   induction m with
   |zero=>rfl
   |succ m ih=>
    rw[List.replicate_succ,List.flatten_cons]
    have happ:∀(p q:List AV),bU p=true->bU q=true->bU (p++q)=true:=by
     intro p q hp hq
     induction p with
     |nil=>exact hq
     |cons x r ih2=>simp only[bU,Bool.and_eq_true,List.cons_append]at hp ⊢;exact⟨hp.1,ih2 hp.2⟩
    exact happ _ _ hone ih
  exact this n
 have hy : ρv y = .int kv (n:Int):=by
  generalize ρv y=yy at hb
  cases hb;rfl
 simp only[Int.ofNat_eq_natCast,Int.toNat_natCast]at h1
 obtain⟨cv,w',ρ',O',hh,ev,H',hr⟩:=AB (P:=P) (z:=z.cells) (e:=e) (run:=(Builtin.append_ tys o.type #[ρv x,.int kv (n:Int)]).run P w) H ha h1 hall hlen hone' hzsz
  (by
   intro hn hx
   subst hn
   rw[hx]
   exact CP w ht0 ht1 hu hint hie)
  (by
   intro a sLen sCap hn hx hle
   subst hn
   rw[hx]
   exact CN w ht0 ht1 hu hint hie hle)
  (by
   intro b off sLen sCap hx hle hst
   rw[hx]
   rw[<-hsz]at hst ⊢
   exact CO w ht0 ht1 hu hint hie hz (by omega) (by rw[hby];exact hbm) hle (by rw[hzsz,hsz]) hst)
  (by
   intro a sLen sCap oc hx hlt hm' hbb hfo
   rw[hx]
   exact CQ w ht0 ht1 hu hint hie hz (by rw[hzsz,hsz]) (hfo ie hsz) hlt hm' (by rw[hby];exact hbb))
 refine⟨.value cv,cv,w',ρ',O',?_,.inl rfl,ev,H',hr⟩
 rw[hrun]
 simp[builtin,hy,hh]
theorem SZ(esz:Nat)(ag:Bool)(hf:fitK P num o (.cpy esz ag)=some l)(h1:op1 h k0 (.cpy esz ag) vs=some (v,eff)):fE P num Fb B0 ρ w O h ρv o v eff:=by
 simp only[fitK]at hf
 split at hf
 case h_2=>cases hf
 rename_i x y tys ho
 split at hf
 case h_2=>cases hf
 rename_i t ht0
 split at hf
 case h_2=>cases hf
 rename_i e hel
 obtain⟨hft,rfl⟩:=aU hf
 obtain⟨a,b,rfl,ha,hb⟩:=hv.two
 obtain⟨cn,hrun⟩:=i6 (P:=P) (ρv := ρv) (w:=w) ho
 have hu:=hY hel
 obtain⟨ie,hie,hsz,_⟩:=fitT_eq hft
 simp only[op1]at h1
 split at h1
 case h_2=>cases h1
 rename_i k e' off len cap
 split at h1
 case h_2=>cases h1
 rename_i e'' cs esz' ag' ti new n rd hgk hsrc
 split at h1
 case isFalse=>cases h1
 rename_i hc
 obtain⟨rfl,hle⟩:=hc
 cases h1
 obtain⟨cc,hall,hlen,hone,hcase⟩:=rL H hb hsrc
 have hcl:cc.length=n*esz:=by have:=hall.length;omega
 obtain⟨cap',L,hx,hL,hlc,hcc',htt,hrm⟩:=ha.of_rf
 obtain⟨L0,c,T,q1,q2,q3,q4,q5,q6,q7,q8,q9,q10⟩:=H.blk _ _ _ _ _ _ _ hgk
 rw[hL]at q1;cases q1
 have hmul:min n len*esz<=n*esz:=Nat.mul_le_mul_right _ (Nat.min_le_left _ _)
 have hmul2:min n len*esz<=len*esz:=Nat.mul_le_mul_right _ (Nat.min_le_right _ _)
 have hall':aL (Rv num ρ w (fun b=>Fb b\/O b)) (new.take (min n len*esz)) (cc.take (min n len*esz)):=by
  refine aL.of_get (by simp;omega) ?_
  intro i x y hx hy
  rw[List.getElem?_take]at hx hy
  split at hx
  ·rename_i hi;rw[if_pos hi]at hy;exact hall.get i x y hx hy
  ·cases hx
 have htl:(cc.take (min n len*esz)).length=min n len*esz:=by simp;omega
 have hnl:(new.take (min n len*esz)).length=min n len*esz:=by simp;omega
 have hlenOf:(Builtin.lenOf (ρv y)).run P w = .ok n w:=(x9 (P:=P) hcl hcase w rfl).1
 have hfirst:(Builtin.firstCells esz (min n len) (ρv y)).run P w = .ok (cc.take (min n len*esz)).toArray w:=by
  rcases hcase with ⟨⟨p,cap9,hy⟩,rfl⟩|⟨b',off',cap'',hy,hcell⟩|⟨s,hy,rfl,rfl,rfl⟩
  ·have:cc=[]:=List.eq_nil_of_length_eq_zero (by simpa using hcl)
   subst this
   rw[hy]
   cases p with
   |none=>rw[run_firstCells_none];simp
   |some a=>simpa using run_firstCells_some w esz 0 a 0 cap9 [] (by simp) (by simp)
  ·rw[hy]
   refine run_firstCells_some w esz (min n len) _ n cap'' _ htl (fun j u hj=>?_)
   rw[gD]
   rw[List.getElem?_take]at hj
   split at hj
   ·exact hcell j u hj
   ·cases hj
  ·rw[hy]
   simp only[Builtin.firstCells]
   have:((⟨s.toArray⟩:ByteArray).extract 0 (min s.length len)).data=(s.take (min s.length len)).toArray:=by
    rw[ByteArray.data_extract];simp
   rw[this]
   simp[List.map_take]
 have honec:∀u∈cc.take (min n len*esz),u.oneCell'=true:=by
  intro u hu
  obtain⟨j,hj⟩:=List.getElem?_of_mem hu
  have hjl:j<new.length:=by
   have:=(List.getElem?_eq_some_iff.1 hj).1
   rw[htl]at this
   have:=hall.length;omega
  rw[List.getElem?_take]at hj
  split at hj
  ·exact(hall.get j new[j] u (by simp[hjl]) hj).one_cell (pX hone j _ (by simp[hjl]))
  ·cases hj
 have hst:=run_storeCells_cells (P:=P) L.b (L.base+off) (cc.take (min n len*esz)) 0 w (by
  intro j hj
  rw[htl]at hj
  have:L.base+off+j<c.size:=by omega
  simp[World.cell?,q4,this]) (by intro j hj;simp[World.frozen?,q4]) honec
 simp only[Nat.add_zero]at hst
 obtain⟨c',t1,t2,t3⟩:=nK L.b T (cc.take (min n len*esz)) (L.base+off) w c q4 (by rw[htl];omega)
 obtain⟨ev,H'⟩:=H.write hgk hL t1 (cs':=dJ cs off (new.take (min n len*esz))) (by omega) (by rw[lK _ _ _ (by omega),hnl];omega) (by
  intro i x hx
  rw[pS _ _ _ (by omega),hnl]at hx
  rw[t3,htl]
  by_cases a1:i<off
  ·rw[if_pos a1]at hx
   obtain⟨y',hy',hr'⟩:=q7 i x hx
   rw[if_neg (by omega)]
   exact⟨y',hy',hr'⟩
  ·rw[if_neg a1]at hx
   by_cases a2:i<off+min n len*esz
   ·rw[if_pos a2]at hx
    rw[if_pos (by omega)]
    have hlt:i-off<(cc.take (min n len*esz)).length:=by omega
    refine⟨(cc.take (min n len*esz))[i-off],?_,hall'.get _ _ _ hx (List.getElem?_eq_getElem hlt)⟩
    rw[show L.base+i-(L.base+off)=i-off by omega]
    exact List.getElem?_eq_getElem hlt
   ·rw[if_neg a2]at hx
    obtain⟨y',hy',hr'⟩:=q7 i x hx
    rw[if_neg (by omega)]
    exact⟨y',hy',hr'⟩)
 refine⟨.value (.int .i64 (min n len:Nat)),_,_,_,_,?_,.inl rfl,ev,H',.int _ _⟩
 rw[hrun]
 have hmin:Nat.min n len=min n len:=rfl
 simp[builtin,Builtin.copy_,ht0,run_underlying hu,hx,hlenOf,fF w hie,hsz,hmin,hfirst,hst,goInt]
end
end Go.Tev
end
section
namespace Go.Tev
open Go.RowKit
def ER(num:Nm)(ρ : Rho)(w:World)(F:Nat->Prop)(a:AV×AV)(b:MapEntry):Prop:=
 Rv num ρ w F a.1 b.key/\Rv num ρ w F a.2 b.val/\a.1.key=true/\a.2.fits a.2.cells.length a.2.isAgg=true
def JR(q:Nat)(d:TypeDesc):Prop:=(q=0/\∃k,d = .int k)\/(q=1/\d = .string)\/(q=2/\d = .bool)
theorem y9{P:Program}{t:TypeId}{q:Nat}(h:BO P t q=true):∃d,P.underlying t=some d/\JR q d:=by
 match q,h with
 |0,h=>obtain⟨k,hk⟩:=zB h;exact⟨_,hk,.inl ⟨rfl,k,rfl⟩⟩
 |1,h=>exact⟨_,iO h,.inr (.inl ⟨rfl,rfl⟩)⟩
 |2,h=>exact⟨_,vM h,.inr (.inr ⟨rfl,rfl⟩)⟩
 |n+3,h=>simp[BO]at h
theorem uD{q:Nat}{x:AV}(h:x.keyQ q=true):x.key=true:=by
 unfold AV.keyQ at h
 split at h<;>first|rfl|cases h
theorem fG{P:Program}{w:World}{kt:TypeId}{d:TypeDesc}{q:Nat}(k:Value)(hd:P.underlying kt=some d)(hq:JR q d)(e:Bool):(Instr.checkKey e 10000 kt k).run P w = .ok () w:=by
 show (Instr.checkKey e (9999+1) kt k).run P w=_
 unfold Instr.checkKey
 simp only[Sem.run_bind,run_underlying hd,Result.andThen]
 rcases hq with ⟨_,j,rfl⟩|⟨_,rfl⟩|⟨_,rfl⟩<;>cases k<;>rfl
section
variable{num:Nm}{ρ : Rho}{w:World}{F:Nat->Prop}
theorem yI{d:TypeDesc}{q:Nat}{x y:AV}{cx cy:Value}{r:Bool}(hq:JR q d)(hx:x.keyQ q=true)(he:eq1 x y=some r)(rx:Rv num ρ w F x cx)(ry:Rv num ρ w F y cy) :
  Instr.sameNow d cx cy=some r/\(r=true->cx=cy):=by
 rcases hq with ⟨rfl,j,rfl⟩|⟨rfl,rfl⟩|⟨rfl,rfl⟩
 ·cases x<;>simp[AV.keyQ]at hx
  cases y<;>simp only[eq1]at he<;>try (cases he;done)
  split at he
  case isFalse=>cases he
  rename_i hk
  cases he
  subst hk
  rw[rx.of_int,ry.of_int]
  refine⟨by simp[Instr.sameNow,Bool.beq_eq_decide_eq],fun h=>?_⟩
  simp at h
  rw[h]
 ·cases x<;>simp[AV.keyQ]at hx
  cases y<;>simp only[eq1]at he<;>try (cases he;done)
  cases he
  rename_i a b
  rw[rx.of_str,ry.of_str]
  refine⟨?_,fun h=>?_⟩
  ·have:((⟨a.toArray⟩:ByteArray)==⟨b.toArray⟩)=decide (a=b):=by
    rw[Bool.eq_iff_iff,MapKept.bytes_beq]
    simp
   simp[Instr.sameNow,this]
  ·simp at h
   rw[h]
 ·cases x<;>simp[AV.keyQ]at hx
  cases y<;>simp only[eq1]at he<;>try (cases he;done)
  cases he
  rw[rx.of_bool,ry.of_bool]
  refine⟨by simp[Instr.sameNow],fun h=>?_⟩
  simp at h
  rw[h]
theorem nF{d:TypeDesc}{q:Nat}{x:AV}{cx:Value}(hq:JR q d)(hx:x.keyQ q=true)(rx:Rv num ρ w F x cx):∀(es:List (AV×AV))(cs:List MapEntry)(i:Nat)(r:Option AV),
  aL (ER num ρ w F) es cs->lJ es x=some r ->
  (r=none/\Instr.findNow d cx cs i=some none/\(∀u,oD es x u=es++[(x,u)])/\oE es x=es) \/
  ∃v j y,r=some v/\Instr.findNow d cx cs i=some (some (i+j,y.val))/\j<es.length/\cs[j]?=some y/\y.key=cx/\Rv num ρ w F v y.val/\(∀u,oD es x u=es.set j (x,u))/\oE es x=es.eraseIdx j
 |[],_,i,r,h,hf=>by
  cases h
  simp only[lJ,Option.some.injEq]at hf
  exact .inl ⟨hf.symm,rfl,fun u=>rfl,rfl⟩
 |(k,v)::es,_,i,r,h,hf=>by
  cases h with
  |cons h1 h2=>
   rename_i b cs
   simp only[lJ]at hf
   split at hf
   ·rename_i he
    cases hf
    obtain⟨s1,s2⟩:=yI hq hx he rx h1.1
    refine .inr ⟨v,0,b,rfl,?_,by simp,rfl,(s2 rfl).symm,h1.2.1,fun u=>by simp[oD,he],by simp[oE,he]⟩
    simp[Instr.findNow,s1]
   ·rename_i he
    obtain⟨s1,_⟩:=yI hq hx he rx h1.1
    rcases nF hq hx rx es cs (i+1) r h2 hf with ⟨a1,a2,a3,a4⟩|⟨v',j,y,a1,a2,a3,a4,a5,a6,a7,a8⟩
    ·refine .inl ⟨a1,by simp[Instr.findNow,s1,a2],fun u=>by simp[oD,he,a3],by simp[oE,he,a4]⟩
    ·refine .inr ⟨v',j+1,y,a1,by simp[Instr.findNow,s1,a2];omega,by simp;omega,by simpa using a4,a5,a6,fun u=>by simp[oD,he,a7],by simp[oE,he,a8]⟩
   ·cases hf
end
section
variable{num:Nm}{Fb:Nat->Prop}{B0:Nat}{ρ : Rho}{w w':World}{O:Nat->Prop}{h:Hp}
theorem ER.evo{ρ':Rho}{O':Nat->Prop}{a:AV×AV}{b:MapEntry}(hh:ER num ρ w (fun b=>Fb b\/O b) a b)(ev:Evo ρ w O ρ' w' O'):ER num ρ' w' (fun b=>Fb b\/O' b) a b:=
 ⟨hh.1.evo ev,hh.2.1.evo ev,hh.2.2⟩
theorem HpR.newM{k:Nat}(H:HpR num Fb B0 ρ w O h)(hp:kN w w' (.map #[] 0)) :
  Evo ρ w O (ρ.set k (h.next k) ⟨w.heap.size,0,0,false,0⟩) w' (fun b=>O b\/b=w.heap.size) /\
  HpR num Fb B0 (ρ.set k (h.next k) ⟨w.heap.size,0,0,false,0⟩) w' (fun b=>O b\/b=w.heap.size) (h.put k (h.next k) (.mpo [])):=by
 have hf:=mW H k
 have ev:Evo ρ w O (ρ.set k (h.next k) ⟨w.heap.size,0,0,false,0⟩) w' (fun b=>O b\/b=w.heap.size):=
  {os:=hp.os,tape:=hp.tape,output:=hp.output,size:=by rw[hp.size];omega,
   keep:=fun b hb _=>hp.old hb,own:=fun b hb hO=>hO.elim id (fun e=>by omega),rho:=Rho.set_keeps hf}
 refine⟨ev,H.put ev ?_ (rQ h k) ?_ ?_ ?_ ?_⟩
 ·intro k' e' L hL
  unfold Rho.set at hL
  split at hL
  ·rename_i hc;exact .inr hc
  ·exact .inl hL
 ·intro b hO
  rw[hp.size]
  rcases hO with hO|rfl
  ·exact⟨(H.own b hO).1,Nat.lt_of_lt_of_le (H.own b hO).2 (by omega)⟩
  ·exact⟨H.le,by omega⟩
 ·intro k' e' o' L hk hg hd hL
  exact⟨hp.old (H.loc_lt hg hd hL),.inl⟩
 ·refine⟨_,#[],0,Rho.set_same _ _ _ _,hp.new,rfl,?_,H.le,.inr rfl⟩
  intro i x y hx
  simp at hx
 ·intro _ k' e' o' L L' hk hg hl hL' hL hb
  rw[Rho.set_same]at hL;cases hL
  have:=H.loc_lt hg (by intro e;subst e;cases hl) hL'
  simp at hb
  omega
theorem HpR.writeM{k e:Nat}{es es':List (AV×AV)}{L:Loc}{c':Array MapEntry}{clock':Nat}(H:HpR num Fb B0 ρ w O h)
  (hg:h.get k=some (e,.mpo es)) (hL : ρ k e=some L) (ht:jC w w' L.b (.map c' clock')) (hc:aL (ER num ρ w (fun b=>Fb b\/O b)) es' c'.toList) :
  Evo ρ w O ρ w' O/\HpR num Fb B0 ρ w' O (h.put k e (.mpo es')):=by
 obtain⟨L0,c,clock,h1,h2,h3,h4,h5,h6⟩:=H.mpo _ _ _ hg
 rw[h1]at hL;cases hL
 have ev:Evo ρ w O ρ w' O:=ht.evo h6
 refine⟨ev,H.put ev (fun _ _ _ h => .inl h) (fun e0 o0 g=>by rw[hg]at g;cases g;exact Nat.le_refl _) ?_ ?_ ?_ ?_⟩
 ·intro b hO;rw[ht.size];exact H.own b hO
 ·intro k' e' o' L' hk hg' hd hL'
  exact⟨ht.other _ (kH H hg rfl h1 hk hg' hd hL'),id⟩
 ·refine⟨L,c',clock',h1,ht.here,by simpa using hc.length,?_,h5,h6⟩
  intro i x y hx hy
  exact(hc.get i x y hx (by rw[Array.getElem?_toList];exact hy)).evo ev
 ·intro _ k' e' o' L1 L2 hk hg' hl hL' hL1 hb
  rw[h1]at hL1;cases hL1
  exact kH H hg rfl h1 hk hg' (by intro e;subst e;cases hl) hL' hb.symm
theorem HpR.all2M{k e:Nat}{es:List (AV×AV)}(H:HpR num Fb B0 ρ w O h){L:Loc}(hg:h.get k=some (e,.mpo es))(hL : ρ k e=some L) :
  ∃(c:Array MapEntry)(clock:Nat),w.heap[L.b]?=some (.map c clock)/\aL (ER num ρ w (fun b=>Fb b\/O b)) es c.toList:=by
 obtain⟨L0,c,clock,h1,h2,h3,h4,h5,h6⟩:=H.mpo _ _ _ hg
 rw[h1]at hL;cases hL
 exact⟨c,clock,h2,aL.of_get (by simpa using h3) (fun i x y hx hy=>h4 i x y hx (by rw[Array.getElem?_toList]at hy;exact hy))⟩
theorem pA{b:Nat}{o o':Obj}(hb:w.heap[b]?=some o):jC w {w with heap:=w.heap.setIfInBounds b o'} b o':=
 ⟨rfl,rfl,rfl,by simp,(MapKept.heap_set hb).1,fun k hk=>(MapKept.heap_set hb).2 k hk⟩
end
theorem aL.set{α β : Type}{R : α -> β -> Prop}:∀{l:List α}{m:List β}(j:Nat){a : α}{b : β},aL R l m->R a b->aL R (l.set j a) (m.set j b)
 |_,_,_,_,_,.nil,_ => .nil
 |_,_,0,_,_,.cons _ h2,h => .cons h h2
 |_,_,j+1,_,_,.cons h1 h2,h => .cons h1 (h2.set j h)
theorem aL.eraseIdx{α β : Type}{R : α -> β -> Prop}:∀{l:List α}{m:List β}(j:Nat),aL R l m->aL R (l.eraseIdx j) (m.eraseIdx j)
 |_,_,_,.nil => .nil
 |_,_,0,.cons _ h2=>h2
 |_,_,j+1,.cons h1 h2 => .cons h1 (h2.eraseIdx j)
theorem CM{num:Nm}{ρ : Rho}{w:World}{F:Nat->Prop}{x:AV}{c:Value}(h:Rv num ρ w F x c)(hx:x.key=true):Instr.sameBits 10000 c c=true:=by
 cases x<;>simp[AV.key]at hx
 ·rw[h.of_bool];simp[Instr.sameBits]
 ·rw[h.of_int];simp[Instr.sameBits]
 ·rw[h.of_str]
  simp only[Instr.sameBits]
  rw[MapKept.bytes_beq]
section
variable{P:Program}{num:Nm}{Fb:Nat->Prop}{B0:Nat}{ρ : Rho}{w:World}{O:Nat->Prop}{h:Hp}{ρv:Operand->Value}{o:Oper}
variable(H:HpR num Fb B0 ρ w O h)
variable{k0:Nat}{l:List Operand}{vs:List AV}{v:AV}{eff:Eff}
variable(hv:aL (Rv num ρ w (fun b=>Fb b\/O b)) vs (l.map ρv))
include H hv
theorem SI(hf:fitK P num o .mkm=some l)(h1:op1 h k0 .mkm vs=some (v,eff)):fE P num Fb B0 ρ w O h ρv o v eff:=by
 simp only[fitK]at hf
 split at hf
 case h_2=>cases hf
 rename_i t ho
 cases hf
 cases hv
 simp only[op1,oP,Option.some.injEq,Prod.mk.injEq]at h1
 obtain⟨rfl,rfl⟩:=h1
 obtain⟨ev,H'⟩:=H.newM (k:=k0) (iR w (.map #[] 0))
 refine⟨_,.map (some w.heap.size),_,_,_,?_,.inl rfl,ev,H',?_⟩
 ·simp only[execOp,ho,Option.map_none]
  rfl
 ·exact .mp _ _ _ (Rho.set_same _ _ _ _)
theorem SG(q:Nat)(zero:AV)(ok:Bool)(hf:fitK P num o (.mlk q zero ok)=some l)(h1:op1 h k0 (.mlk q zero ok) vs=some (v,eff)):fE P num Fb B0 ρ w O h ρv o v eff:=by
 simp only[fitK]at hf
 split at hf
 case h_2=>cases hf
 rename_i t m x ok' ho
 split at hf
 case h_2=>cases hf
 rename_i kt et hu
 obtain⟨hg,rfl⟩:=aU hf
 simp only[Bool.and_eq_true,beq_iff_eq]at hg
 obtain⟨⟨rfl,hk⟩,hz⟩:=hg
 obtain⟨a,b,rfl,ha,hb⟩:=hv.two
 obtain⟨d,hd,hq⟩:=y9 hk
 obtain⟨z,hzr,hzv⟩:∃z,(zeroValue et).run P w = .ok z w/\Rv num ρ w (fun b=>Fb b\/O b) zero z:=by
  unfold fitZV at hz
  split at hz
  case h_2=>cases hz
  rename_i i hi
  split at hz
  case h_2=>cases hz
  rename_i z hz'
  refine⟨z,?_,fitV_sound hz⟩
  simp[zeroValue,typeInfo,hi,hz',Sem.run,Result.andThen]
 have fin:∀(v1:AV)(c1:Value)(b1:Bool),Rv num ρ w (fun b=>Fb b\/O b) v1 c1->Rv num ρ w (fun b=>Fb b\/O b) (if ok then .tup [v1,.bool b1] else v1) (if ok then .tuple #[c1,.bool b1] else c1):=by
  intro v1 c1 b1 hr
  cases ok
  ·exact hr
  ·exact .of_all2_tup (.cons hr (.cons (.bool _) .nil))
 simp only[op1]at h1
 split at h1
 ·split at h1
  case isFalse=>cases h1
  rename_i hx
  obtain⟨rfl,rfl⟩:=cB h1
  have hm:=ha.of_nilm
  refine .val H (cv:=if ok then .tuple #[z,.bool false] else z) ?_ (fin _ _ _ hzv)
  simp only[execOp,ho,hm]
  simp[Instr.lookup,run_underlying hu,Result.andThen,fG (ρv x) hd hq,MapKept.run_findKey (w:=w) hd (show Instr.findNow d (ρv x) [] 0=some none from rfl),hzr]
 ·split at h1
  case h_2=>cases h1
  rename_i k e e' es hgk
  split at h1
  case isFalse=>cases h1
  rename_i hc
  obtain⟨rfl,hx⟩:=hc
  obtain⟨L,hm,hL⟩:=ha.of_mp
  obtain⟨c,clock,hh,hall⟩:=H.all2M hgk hL
  split at h1
  ·rename_i v1 hfd
   cases h1
   rcases nF hq hx hb es c.toList 0 _ hall hfd with ⟨h0,_⟩|⟨v',j,y,h0,hn,_,_,_,hr,_⟩
   ·cases h0
   ·cases h0
    refine .val H (cv:=if ok then .tuple #[y.val,.bool true] else y.val) ?_ (fin _ _ _ hr)
    simp only[execOp,ho,hm]
    simp[Instr.lookup,run_underlying hu,Result.andThen,fG (ρv x) hd hq,MapKept.run_getObj_map hh,MapKept.run_findKey (w:=w) hd hn]
  ·rename_i hfd
   cases h1
   rcases nF hq hx hb es c.toList 0 _ hall hfd with ⟨_,hn,_⟩|⟨v',j,y,h0,_⟩
   ·refine .val H (cv:=if ok then .tuple #[z,.bool false] else z) ?_ (fin _ _ _ hzv)
    simp only[execOp,ho,hm]
    simp[Instr.lookup,run_underlying hu,Result.andThen,fG (ρv x) hd hq,MapKept.run_getObj_map hh,MapKept.run_findKey (w:=w) hd hn,hzr]
   ·cases h0
  ·cases h1
 ·cases h1
theorem SF(q:Nat)(hf:fitK P num o (.mup q)=some l)(h1:op1 h k0 (.mup q) vs=some (v,eff)):fE P num Fb B0 ρ w O h ρv o v eff:=by
 simp only[fitK]at hf
 split at hf
 case h_2=>cases hf
 rename_i t m x y ho
 split at hf
 case h_2=>cases hf
 rename_i kt et hu
 obtain⟨hk,rfl⟩:=aU hf
 obtain⟨a,b,c0,rfl,ha,hb,hc0⟩:=hv.three
 obtain⟨d,hd,hq⟩:=y9 hk
 simp only[op1]at h1
 split at h1
 case h_2=>cases h1
 rename_i k e
 split at h1
 case h_2=>cases h1
 rename_i e' es hgk
 split at h1
 case isFalse=>cases h1
 rename_i hc
 obtain⟨rfl,hx,hfit⟩:=hc
 split at h1
 case h_2=>cases h1
 rename_i r hfd
 cases h1
 obtain⟨L,hm,hL⟩:=ha.of_mp
 obtain⟨c,clock,hh,hall⟩:=H.all2M hgk hL
 have hex:∀w',(Instr.mapUpdate t (ρv m) (ρv x) (ρv y)).run P w = .ok () w'->(execOp ρv o).run P w = .ok .skip w':=by
  intro w' hr
  unfold TF at ho
  split at ho
  ·rename_i e1;cases ho;simp only[execOp,e1];simp[hr,Result.andThen]
  ·rename_i e1;cases ho;simp only[execOp,e1];simp[hr,Result.andThen]
  ·cases ho
 have her:ER num ρ w (fun b=>Fb b\/O b) (b,c0) {key := ρv x,val := ρv y,born:=0}:=⟨hb,hc0,uD hx,hfit⟩
 rcases nF hq hx hb es c.toList 0 _ hall hfd with ⟨_,hn,hset,_⟩|⟨v',j,y',_,hn,hj,hy,hkey,_,hset,_⟩
 ·have ht:jC w {w with heap:=w.heap.setIfInBounds L.b (.map (c.push {key := ρv x,val := ρv y,born:=clock}) (clock+1))} L.b (.map (c.push {key := ρv x,val := ρv y,born:=clock}) (clock+1)):=pA hh
  obtain⟨ev,H'⟩:=H.writeM (es':=oD es b c0) hgk hL ht (by
   rw[hset,Array.toList_push]
   exact hall.append (.cons ⟨hb,hc0,uD hx,hfit⟩ .nil))
  refine⟨.skip,undef,_,ρ,O,hex _ ?_,.inr ⟨rfl,rfl⟩,ev,H',.tup [] #[] rfl (by intro i x y hx;simp at hx)⟩
  rw[hm]
  simp[Instr.mapUpdate,run_underlying hu,Result.andThen,fG (ρv x) hd hq,MapKept.run_getObj_map hh,MapKept.run_findKey (w:=w) hd hn,MapKept.run_setObj_map _ hh]
 ·simp only[Nat.zero_add]at hn
  have hyk:c[j]?=some y':=by rw[Array.getElem?_toList]at hy;exact hy
  have ht:jC w {w with heap:=w.heap.setIfInBounds L.b (.map (c.modify j fun e=>{e with key := ρv x,val := ρv y}) clock)} L.b (.map (c.modify j fun e=>{e with key := ρv x,val := ρv y}) clock):=pA hh
  have hl:(c.modify j fun e=>{e with key := ρv x,val := ρv y}).toList=c.toList.set j {y' with key := ρv x,val := ρv y}:=by
   apply List.ext_getElem?
   intro i
   simp only[Array.getElem?_toList,Array.getElem?_modify,List.getElem?_set]
   by_cases hij:j=i
   ·subst hij
    have hlt:j<c.size:=(Array.getElem?_eq_some_iff.1 hyk).1
    have hcj:c[j]=y':=by
     have:=Array.getElem?_eq_getElem hlt
     rw[this]at hyk
     exact Option.some.inj hyk
    simp[hlt,hcj]
   ·simp[hij]
  obtain⟨ev,H'⟩:=H.writeM (es':=oD es b c0) hgk hL ht (by
   rw[hset,hl]
   exact hall.set j ⟨hb,hc0,uD hx,hfit⟩)
  refine⟨.skip,undef,_,ρ,O,hex _ ?_,.inr ⟨rfl,rfl⟩,ev,H',.tup [] #[] rfl (by intro i x y hx;simp at hx)⟩
  rw[hm]
  have hsb:(Instr.keyThatStays (((c[j]?).map (·.key)).getD (ρv x)) (ρv x)).run P w = .ok (ρv x) w:=by
   rw[hyk]
   simp only[Option.map_some,Option.getD_some,hkey]
   simp[Instr.keyThatStays,CM hb (uD hx)]
  simp[Instr.mapUpdate,run_underlying hu,Result.andThen,fG (ρv x) hd hq,MapKept.run_getObj_map hh,MapKept.run_findKey (w:=w) hd hn,MapKept.run_setObj_map _ hh,hsb]
theorem QI(q:Nat)(hf:fitK P num o (.mdel q)=some l)(h1:op1 h k0 (.mdel q) vs=some (v,eff)):fE P num Fb B0 ρ w O h ρv o v eff:=by
 simp only[fitK]at hf
 split at hf
 case h_2=>cases hf
 rename_i m x tys ho
 split at hf
 case h_2=>cases hf
 rename_i t ht0
 split at hf
 case h_2=>cases hf
 rename_i kt et hu
 obtain⟨hk,rfl⟩:=aU hf
 obtain⟨a,b,rfl,ha,hb⟩:=hv.two
 obtain⟨d,hd,hq⟩:=y9 hk
 obtain⟨cn,hrun⟩:=i6 (P:=P) (ρv := ρv) (w:=w) ho
 simp only[op1]at h1
 split at h1
 ·split at h1
  case isFalse=>cases h1
  rename_i hx
  obtain⟨rfl,rfl⟩:=cB h1
  have hm:=ha.of_nilm
  refine .val H (cv:=.tuple #[]) ?_ (.tup [] #[] rfl (by intro i x y hx;simp at hx))
  rw[hrun]
  simp[builtin,Builtin.delete_,ht0,hm,run_underlying hu,Result.andThen,fG (ρv x) hd hq]
 ·split at h1
  case h_2=>cases h1
  rename_i k e e' es hgk
  split at h1
  case isFalse=>cases h1
  rename_i hc
  obtain⟨rfl,hx⟩:=hc
  split at h1
  case h_2=>cases h1
  rename_i r hfd
  cases h1
  obtain⟨L,hm,hL⟩:=ha.of_mp
  obtain⟨c,clock,hh,hall⟩:=H.all2M hgk hL
  rcases nF hq hx hb es c.toList 0 _ hall hfd with ⟨_,hn,_,hdel⟩|⟨v',j,y',_,hn,hj,hy,hkey,_,_,hdel⟩
  ·have ht:jC w {w with heap:=w.heap.setIfInBounds L.b (.map c clock)} L.b (.map c clock):=pA hh
   obtain⟨ev,H'⟩:=H.writeM (es':=oE es b) hgk hL ht (by rw[hdel];exact hall)
   refine⟨.value (.tuple #[]),.tuple #[],_,ρ,O,?_,.inl rfl,ev,H',.tup [] #[] rfl (by intro i x y hx;simp at hx)⟩
   rw[hrun]
   simp[builtin,Builtin.delete_,ht0,hm,run_underlying hu,Result.andThen,fG (ρv x) hd hq,MapKept.run_getObj_map hh,MapKept.run_findKey (w:=w) hd hn,MapKept.run_setObj_map _ hh]
  ·simp only[Nat.zero_add]at hn
   have hjl:j<c.size:=by
    rw[Array.getElem?_toList]at hy
    exact(Array.getElem?_eq_some_iff.1 hy).1
   have ht:jC w {w with heap:=w.heap.setIfInBounds L.b (.map (c.eraseIdxIfInBounds j) clock)} L.b (.map (c.eraseIdxIfInBounds j) clock):=pA hh
   obtain⟨ev,H'⟩:=H.writeM (es':=oE es b) hgk hL ht (by
    have:(c.eraseIdxIfInBounds j).toList=c.toList.eraseIdx j:=by
     unfold Array.eraseIdxIfInBounds
     rw[dif_pos hjl,Array.toList_eraseIdx]
    rw[hdel,this]
    exact hall.eraseIdx j)
   refine⟨.value (.tuple #[]),.tuple #[],_,ρ,O,?_,.inl rfl,ev,H',.tup [] #[] rfl (by intro i x y hx;simp at hx)⟩
   rw[hrun]
   simp[builtin,Builtin.delete_,ht0,hm,run_underlying hu,Result.andThen,fG (ρv x) hd hq,MapKept.run_getObj_map hh,MapKept.run_findKey (w:=w) hd hn,MapKept.run_setObj_map _ hh]
 ·cases h1
end
end Go.Tev
end
section
namespace Go.Tev
open Go.RowKit
section
variable{P:Program}{num:Nm}{Fb:Nat->Prop}{B0:Nat}{ρ : Rho}{w:World}{O:Nat->Prop}{h:Hp}{ρv:Operand->Value}{o:Oper}
def Ob.isBlk:Ob->Bool
 |.blk .. => true
 |_=>false
def SB(ρ : Rho)(h:Hp)(S:List Nat)(b:Nat):Prop:=∃k e o L,k∈S/\h.get k=some (e,o)/\o.isBlk=true /\ ρ k e=some L/\L.b=b
theorem hX{f:AV->Option (AV×List Nat)}:∀{l:List AV}{l':List AV}{s:List Nat},cG f l=some (l',s) ->
  l'.length=l.length/\∀(i:Nat)(x:AV),l[i]?=some x->∃x' s',l'[i]?=some x'/\f x=some (x',s')/\∀k∈s',k∈s
 |[],l',s,h=>by
  simp[cG]at h
  obtain⟨rfl,rfl⟩:=h
  exact⟨rfl,by intro i x hx;simp at hx⟩
 |y::r,l',s,h=>by
  unfold cG at h
  split at h
  ·cases h
  ·rename_i y' s1 hy
   split at h
   ·cases h
   ·rename_i r' s2 hr
    cases h
    obtain⟨h1,h2⟩:=hX hr
    refine⟨by simp[h1],?_⟩
    intro i x hx
    cases i with
    |zero=>simp at hx;subst hx;exact⟨y',s1,rfl,hy,fun k hk=>List.mem_append_left _ hk⟩
    |succ i=>
     obtain⟨x',s',q1,q2,q3⟩:=h2 i x (by simpa using hx)
     exact⟨x',s',by simpa using q1,q2,fun k hk=>List.mem_append_right _ (q3 k hk)⟩
theorem qO{d:Nat}{v t:AV}{s:List Nat}(hs:snap d h v=some (t,s)):t.isAgg=v.isAgg/\t.cells.length=v.cells.length:=by
 cases d with
 |zero=>simp[snap]at hs
 |succ d=>
  unfold snap at hs
  split at hs
  ·cases hs;exact⟨rfl,rfl⟩
  ·split at hs
   ·rename_i cs _
    cases hm:cG (snap d h) cs with
    |none=>simp[hm]at hs
    |some r=>
     simp[hm]at hs
     obtain⟨rfl,_⟩:=hs
     exact⟨rfl,(hX hm).1⟩
   ·rename_i cs _
    cases hm:cG (snap d h) cs<;>simp[hm]at hs
    obtain⟨rfl,_⟩:=hs;exact⟨rfl,rfl⟩
   ·rename_i nl es cl _
    cases hm:cG (snap d h) es<;>simp[hm]at hs
    obtain⟨rfl,_⟩:=hs;exact⟨rfl,rfl⟩
   ·rename_i v' _
    cases hm:snap d h v'<;>simp[hm]at hs
    obtain⟨rfl,_⟩:=hs;exact⟨rfl,rfl⟩
   ·rename_i f cs _
    cases hm:cG (snap d h) cs<;>simp[hm]at hs
    obtain⟨rfl,_⟩:=hs;exact⟨rfl,rfl⟩
   ·split at hs
    ·split at hs
     ·split at hs
      ·rename_i es _
       cases hm:cG (snap d h) es<;>simp[hm]at hs
       obtain⟨rfl,_⟩:=hs;exact⟨rfl,rfl⟩
      ·cases hs
     ·cases hs
    ·cases hs
   ·split at hs
    ·split at hs
     ·split at hs
      ·split at hs
       ·cases hs;exact⟨rfl,rfl⟩
       ·split at hs
        ·split at hs
         ·cases hs
         ·cases hs;exact⟨rfl,rfl⟩
        ·cases hs
      ·cases hs
     ·cases hs
    ·cases hs
   ·cases hs
theorem r7{esz:Nat}{ag:Bool}:∀{n:Nat}{cs es:List AV},l9 esz ag n cs=some es ->
  es.length=n/\n*esz<=cs.length/\∀(i:Nat)(e:AV),es[i]?=some e->e.cells.length=esz/\e.isAgg=ag/\∀j:Nat,j<esz->e.cells[j]?=cs[i*esz+j]?
 |0,cs,es,h=>by
  simp[l9]at h;subst h
  exact⟨rfl,by simp,by intro i e he;simp at he⟩
 |n+1,cs,es,h=>by
  unfold l9 at h
  split at h
  ·rename_i hag;subst hag
   split at h
   ·cases h
   ·rename_i hl
    cases hc:l9 esz true n (cs.drop esz) with
    |none=>simp[hc]at h
    |some r=>
     simp[hc]at h
     subst h
     obtain⟨h1,h2,h3⟩:=r7 hc
     simp at h2
     refine⟨by simp[h1],by rw[Nat.add_mul];omega,?_⟩
     intro i e he
     cases i with
     |zero=>
      simp at he;subst he
      refine⟨by simp[AV.cells];omega,rfl,fun j hj=>by simp[AV.cells,List.getElem?_take,hj]⟩
     |succ i=>
      obtain⟨q1,q2,q3⟩:=h3 i e (by simpa using he)
      refine⟨q1,q2,fun j hj=>?_⟩
      rw[q3 j hj,List.getElem?_drop,Nat.add_mul]
      congr 1;omega
  ·rename_i hag
   have hag':ag=false:=by simpa using hag
   subst hag'
   split at h
   ·rename_i c r
    split at h
    ·cases h
    ·rename_i hna
     cases hc:l9 1 false n r with
     |none=>simp[hc]at h
     |some r'=>
      simp[hc]at h
      subst h
      obtain⟨h1,h2,h3⟩:=r7 hc
      have hcells:c.cells=[c]:=by cases c<;>first|rfl|simp[AV.isAgg]at hna
      refine⟨by simp[h1],by simp at h2 ⊢;omega,?_⟩
      intro i e he
      cases i with
      |zero=>
       simp at he;subst he
       refine⟨by rw[hcells];rfl,by simpa using hna,fun j hj=>?_⟩
       have:j=0:=by omega
       subst this
       rw[hcells];rfl
      |succ i=>
       obtain⟨q1,q2,q3⟩:=h3 i e (by simpa using he)
       refine⟨q1,q2,fun j hj=>?_⟩
       rw[q3 j hj]
       have:j=0:=by omega
       subst this
       simp
   ·cases h
theorem vW{ρ0:Rho}{F F':Nat->Prop}{d:Nat}{e e':AV}{s:List Nat}{m:Nat->Value}(hs:snap d h e=some (e',s))
  (ih:∀c,Rv num ρ w F e c->Rv num ρ0 w F' e' c) (hm:∀(j:Nat)(x:AV),e.cells[j]?=some x->Rv num ρ w F x (m j)) :
  ∀(j:Nat)(x:AV),e'.cells[j]?=some x->Rv num ρ0 w F' x (m j):=by
 obtain⟨h1,h2⟩:=qO hs
 cases he:e.isAgg with
 |true=>
  cases e<;>simp[AV.isAgg]at he
  rename_i cs
  rw[show (AV.agg cs).isAgg=true from rfl]at h1
  cases e'<;>simp[AV.isAgg]at h1
  rename_i cs'
  simp only[AV.cells]at h2 hm ⊢
  have hr:Rv num ρ w F (.agg cs) (.agg ((List.range cs.length).map m).toArray):=by
   refine .agg _ _ (by simp) ?_
   intro i x y hx hy
   have hi:=(List.getElem?_eq_some_iff.1 hx).1
   simp[hi]at hy
   subst hy
   exact hm i x hx
  obtain⟨vs,hvs,hl,hg⟩:=(ih _ hr).of_agg
  cases hvs
  intro j x hx
  have hj:=(List.getElem?_eq_some_iff.1 hx).1
  have hj':j<cs.length:=by omega
  exact hg j x (m j) hx (by simp[hj'])
 |false=>
  rw[he]at h1
  have c1:e.cells=[e]:=by cases e<;>first|rfl|simp[AV.isAgg]at he
  have c2:e'.cells=[e']:=by cases e'<;>first|rfl|simp[AV.isAgg]at h1
  rw[c1]at hm
  rw[c2]
  intro j x hx
  cases j with
  |zero=>simp at hx;subst hx;exact ih _ (hm 0 e rfl)
  |succ j=>simp at hx
theorem eT(H:HpR num Fb B0 ρ w O h){ρ0:Rho}{F':Nat->Prop}(hF:∀b,F' b->Fb b\/O b):∀(d:Nat)(v t:AV)(s:List Nat)(c:Value),snap d h v=some (t,s) ->
  Rv num ρ w (fun b=>Fb b\/O b) v c->(∀b,SB ρ h s b->¬F' b)->Rv num ρ0 w F' t c
 |0,_,_,_,_,hs,_,_=>by simp[snap]at hs
 |d+1,v,t,s,c,hs,hr,hS=>by
  unfold snap at hs
  split at hs
  ·rename_i ht
   cases hs
   exact hr.tree_mono ht hF
  ·have hsub:∀(s':List Nat),(∀k∈s',k∈s)->∀b,SB ρ h s' b->¬F' b:=by
    intro s' hs' b hb
    obtain⟨k,e,o,L,h1,h2⟩:=hb
    exact hS b ⟨k,e,o,L,hs' k h1,h2⟩
   split at hs
   ·rename_i cs _
    cases hm:cG (snap d h) cs with
    |none=>simp[hm]at hs
    |some r=>
     simp[hm]at hs
     obtain⟨rfl,rfl⟩:=hs
     obtain⟨vs,rfl,hl,hg⟩:=hr.of_agg
     obtain⟨m1,m2⟩:=hX hm
     refine .agg _ _ (by omega) ?_
     intro i x y hx hy
     have hi:i<cs.length:=by have:=(List.getElem?_eq_some_iff.1 hx).1;omega
     obtain⟨x',s',q1,q2,q3⟩:=m2 i cs[i] (by simp[hi])
     rw[hx]at q1;cases q1
     exact eT H hF d _ _ _ _ q2 (hg i _ y (by simp[hi]) hy) (hsub s' q3)
   ·rename_i cs _
    cases hm:cG (snap d h) cs with
    |none=>simp[hm]at hs
    |some r=>
     simp[hm]at hs
     obtain⟨rfl,rfl⟩:=hs
     obtain⟨vs,rfl,hl,hg⟩:=hr.of_tup
     obtain⟨m1,m2⟩:=hX hm
     refine .tup _ _ (by omega) ?_
     intro i x y hx hy
     have hi:i<cs.length:=by have:=(List.getElem?_eq_some_iff.1 hx).1;omega
     obtain⟨x',s',q1,q2,q3⟩:=m2 i cs[i] (by simp[hi])
     rw[hx]at q1;cases q1
     exact eT H hF d _ _ _ _ q2 (hg i _ y (by simp[hi]) hy) (hsub s' q3)
   ·rename_i nl es cl _
    cases hm:cG (snap d h) es with
    |none=>simp[hm]at hs
    |some r=>
     simp[hm]at hs
     obtain⟨rfl,rfl⟩:=hs
     obtain⟨m1,m2⟩:=hX hm
     cases nl with
     |true=>
      obtain⟨rfl,rfl⟩:=hr.of_nsl
      have:r.1=[]:=List.eq_nil_of_length_eq_zero (by simpa using m1)
      rw[this]
      exact .nsl _
     |false=>
      obtain⟨b,off,cap,sz,m,sp,rfl,hsp,hc,hcl,hFF,hz,hm',hrr⟩:=hr.of_sl
      rw[<-m1]
      rw[<-m1]at hc hcl hm'
      refine .sl r.1 cl b off cap sz m hc hcl ?_ ?_ hm' ?_ sp (fun hne=>hsp (by intro q;subst q;exact hne (List.eq_nil_of_length_eq_zero (by simpa using m1))))
      ·intro hne
       have hne':es≠[]:=by intro q;subst q;exact hne (List.eq_nil_of_length_eq_zero (by simpa using m1))
       exact⟨fun q=>(hFF hne').1 (hF b q),(hFF hne').2⟩
      ·intro i e' he'
       have hi:i<es.length:=by have:=(List.getElem?_eq_some_iff.1 he').1;omega
       obtain⟨x',s',q1,q2,q3⟩:=m2 i es[i] (by simp[hi])
       rw[he']at q1;cases q1
       rw[(qO q2).2]
       exact hz i _ (by simp[hi])
      ·intro i e' j x he' hx
       have hi:i<es.length:=by have:=(List.getElem?_eq_some_iff.1 he').1;omega
       obtain⟨x',s',q1,q2,q3⟩:=m2 i es[i] (by simp[hi])
       rw[he']at q1;cases q1
       exact vW (m:=fun j=>m (i*sz+j)) q2 (fun c hc'=>eT H hF d _ _ _ c q2 hc' (hsub s' q3)) (fun j x hx=>hrr i _ j x (by simp[hi]) hx) j x hx
   ·rename_i v' _
    cases hm:snap d h v' with
    |none=>simp[hm]at hs
    |some r=>
     simp[hm]at hs
     obtain⟨rfl,rfl⟩:=hs
     obtain⟨t',c',rfl,h2⟩:=hr.of_ifc
     exact .ifc _ _ _ (eT H hF d _ _ _ _ hm h2 hS)
   ·rename_i f cs _
    cases hm:cG (snap d h) cs with
    |none=>simp[hm]at hs
    |some r=>
     simp[hm]at hs
     obtain⟨rfl,rfl⟩:=hs
     obtain⟨vs,rfl,hl,hg⟩:=hr.of_fn
     obtain⟨m1,m2⟩:=hX hm
     refine .fn _ _ _ (by omega) ?_
     intro i x y hx hy
     have hi:i<cs.length:=by have:=(List.getElem?_eq_some_iff.1 hx).1;omega
     obtain⟨x',s',q1,q2,q3⟩:=m2 i cs[i] (by simp[hi])
     rw[hx]at q1;cases q1
     exact eT H hF d _ _ _ _ q2 (hg i _ y (by simp[hi]) hy) (hsub s' q3)
   ·rename_i k e off len cap _
    split at hs
    case h_2=>cases hs
    rename_i e' cs esz ag ti fz hgk
    split at hs
    case isFalse=>cases hs
    rename_i he;subst he
    split at hs
    case h_2=>cases hs
    rename_i es hch
    cases hm:cG (snap d h) es with
    |none=>simp[hm]at hs
    |some r=>
     simp[hm]at hs
     obtain⟨rfl,rfl⟩:=hs
     obtain⟨m1,m2⟩:=hX hm
     obtain⟨c1,c2,c3⟩:=r7 hch
     obtain⟨cap',L,rfl,hL,hlc,hcc,htt,hrm⟩:=hr.of_rf
     obtain⟨L0,cb,T,q1,q2,q3,q4,q5,q6,q7,q8,q9,q10⟩:=H.blk _ _ _ _ _ _ _ hgk
     rw[hL]at q1;cases q1
     have hnF:¬F' L.b:=hS L.b ⟨k,e',_,L,by simp,hgk,rfl,hL,rfl⟩
     have hlt:L.b<w.heap.size:=H.loc_lt hgk (by simp) hL
     have hrl:r.1.length=len:=by omega
     have hcell:∀n,n<len*esz->w.cell? ⟨L.b,L.base+off+n,none⟩=some (cb.getD (L.base+off+n) undef):=by
      intro n hn
      simp at c2
      have:L.base+off+n<cb.size:=by omega
      simp[World.cell?,q4,this]
     have key:=Rv.sl (num:=num) (ρ := ρ0) (w:=w) (F:=F') r.1 (ti&&len==cap) L.b (L.base+off) cap' esz (fun n=>cb.getD (L.base+off+n) undef) (by omega)
      (fun q=>by
       simp only[Bool.and_eq_true,beq_iff_eq]at q
       have:=htt (by rw[q2];exact q.1)
       omega)
      (fun _=>⟨hnF,hlt⟩)
      (by
       intro i u hu
       have hi:i<es.length:=by have:=(List.getElem?_eq_some_iff.1 hu).1;omega
       obtain⟨x',s',p1,p2,p3⟩:=m2 i es[i] (by simp[hi])
       rw[hu]at p1;cases p1
       rw[(qO p2).2]
       exact(c3 i _ (by simp[hi])).1)
      (by intro n hn;rw[hrl]at hn;exact hcell n hn)
      (by
       intro i u j x hu hx
       have hi:i<es.length:=by have:=(List.getElem?_eq_some_iff.1 hu).1;omega
       obtain⟨x',s',p1,p2,p3⟩:=m2 i es[i] (by simp[hi])
       rw[hu]at p1;cases p1
       refine vW (m:=fun j=>cb.getD (L.base+off+(i*esz+j)) undef) p2 (fun c hc'=>eT H hF d _ _ _ c p2 hc' (hsub s' (fun k hk=>List.mem_cons_of_mem _ (p3 k hk)))) ?_ j x hx
       intro j x hx
       obtain⟨d1,d2,d3⟩:=c3 i es[i] (by simp[hi])
       have hj:j<esz:=by have:=(List.getElem?_eq_some_iff.1 hx).1;omega
       rw[d3 j hj,List.getElem?_drop]at hx
       obtain⟨y,hy,hr'⟩:=q7 _ x hx
       rw[<-Nat.add_assoc]at hy
       simp[hy]
       exact hr')
     rw[hrl]at key
     exact key none (fun _=>rfl)
   ·rename_i k e off _
    split at hs
    case h_2=>cases hs
    rename_i e' cs esz ag ti fz hgk
    split at hs
    case isFalse=>cases hs
    rename_i he
    obtain⟨rfl,rfl,rfl⟩:=he
    split at hs
    case h_2=>cases hs
    rename_i l s1 hm
    obtain⟨m1,m2⟩:=hX hm
    obtain⟨L,rfl,hL⟩:=hr.of_pt
    obtain⟨L0,cb,T,q1,q2,q3,q4,q5,q6,q7,q8,q9,q10⟩:=H.blk _ _ _ _ _ _ _ hgk
    rw[hL]at q1;cases q1
    have hcell:∀n,n<cs.length->w.cell? ⟨L.b,L.base+0+n,none⟩=some (cb.getD (L.base+n) undef):=by
     intro n hn
     have:L.base+n<cb.size:=by omega
     simp[World.cell?,q4,this]
    have hlt:L.b<w.heap.size:=H.loc_lt hgk (by simp) hL
    have hval:∀(i:Nat)(x:AV),(∀k∈s1,k∈s)->l[i]?=some x->Rv num ρ0 w F' x (cb.getD (L.base+i) undef):=by
     intro i x hsub1 hx
     have hi:i<cs.length:=by have:=(List.getElem?_eq_some_iff.1 hx).1;omega
     obtain⟨x',s',p1,p2,p3⟩:=m2 i cs[i] (by simp[hi])
     rw[hx]at p1;cases p1
     obtain⟨y,hy,hr'⟩:=q7 i cs[i] (by simp[hi])
     have:cb.getD (L.base+i) undef=y:=by simp[hy]
     rw[this]
     exact eT H hF d _ _ _ y p2 hr' (hsub s' (fun k hk=>hsub1 k (p3 k hk)))
    split at hs
    ·cases hs
     have hnF:¬F' L.b:=hS L.b ⟨k,e',_,L,by simp,hgk,rfl,hL,rfl⟩
     refine .fp _ _ _ (fun n=>cb.getD (L.base+n) undef) hnF hlt (fun n hn=>hcell n (by simp[AV.cells]at hn;omega)) ?_
     intro j x hx
     exact hval j x (fun k hk=>List.mem_cons_of_mem _ hk) hx
    ·split at hs
     ·rename_i v1
      split at hs
      ·cases hs
      ·rename_i hna
       cases hs
       have hcells:v1.cells=[v1]:=by cases v1<;>first|rfl|simp[AV.isAgg]at hna
       have hnF:¬F' L.b:=hS L.b ⟨k,e',_,L,by simp,hgk,rfl,hL,rfl⟩
       refine .fp _ _ _ (fun n=>cb.getD (L.base+n) undef) hnF hlt (fun n hn=>hcell n (by rw[hcells]at hn;simp at hn m1;omega)) ?_
       intro j x hx
       rw[hcells]at hx
       exact hval j x (fun k hk=>List.mem_cons_of_mem _ hk) hx
     ·cases hs
   ·cases hs
end
end Go.Tev
end
