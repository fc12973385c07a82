import Derived.Test.YtilkdbbkkcnocaaGreatDoorSAC
import Derived.Laws.MakeOwn
import Derived.Laws.IdiomStrings
import Derived.Laws.BytesArg
import Derived.Laws.AppendOwn
set_option linter.all false
namespace Go.Tev
section
open Go.RowKit
theorem qA(w:World)(need old:Nat)(e:TypeId):need<=grownCap w need old e:=by simp only[grownCap,Question.cut];omega
section
variable{P:Program}{num:Nm}{Fb:Nat->Prop}{B0:Nat}{ρ : Rho}{w:World}{O:Nat->Prop}{h:Hp}{ρv:Operand->Value}{o:Oper}
theorem jF{F:Nat->Prop}{ox:Option Operand}{rest:List Operand}{r r':List AV}{oi:Option Int}(h:jG ox.isSome r=some (oi,r'))
  (hv:aJ (Rv num ρ w F) r ((ox.toList++rest).map ρv)) :
  aJ (Rv num ρ w F) r' (rest.map ρv)/\((ox=none/\oi=none)\/∃x k n,ox=some x /\ ρv x = .int k n/\oi=some n):=by
 cases ox with
 |none=>
  simp only[Option.isSome_none]at h;have:oi=none/\r'=r:=by unfold jG at h;split at h<;>simp at h<;>simp[h]
  obtain⟨rfl,rfl⟩:=this;exact⟨by simpa using hv,.inl ⟨rfl,rfl⟩⟩
 |some x=>
  simp only[Option.isSome_some]at h;simp only[Option.toList_some,List.cons_append,List.nil_append,List.map_cons]at hv;cases hv with
  |cons ha hr=>unfold jG at h;split at h;rename_i heq;cases heq;rename_i k n r0 heq;cases heq;simp at h;obtain⟨rfl,rfl⟩:=h;exact⟨hr,.inr ⟨x,k,n,rfl,ha.of_int,rfl⟩⟩;simp at h
theorem sI(isS:Bool)(len cap:Nat){lo hi mx:Option Operand}{l hh m:Option Int}(hl:(lo=none/\l=none)\/∃x k n,lo=some x /\ ρv x = .int k n/\l=some n)
  (hh':(hi=none/\hh=none)\/∃x k n,hi=some x /\ ρv x = .int k n/\hh=some n) (hm:(mx=none/\m=none)\/∃x k n,mx=some x /\ ρv x = .int k n/\m=some n)
  (hmi:mx.isSome=true->hi.isSome=true) (w:World)
  (b1:0<=l.getD 0) (b2:l.getD 0<=hh.getD len) (b3:hh.getD len<=m.getD cap) (b4:m.getD cap<=cap) :
  (Instr.sliceBounds isS len cap (lo.map ρv) (hi.map ρv) (mx.map ρv)).run P w = .ok ((l.getD 0).toNat,(hh.getD len).toNat,(m.getD cap).toNat) w:=by
 have key:∀(k:IntKind)(i y:Nat)(code:BoundsCode),i<=y->(Instr.sliceBound (.int k (i:Int)) y code).run P w = .ok i w:=by intro k i y code hle;have:=run_sliceBound (P:=P) w k (i:Int) y code (by omega) (by omega);simpa using this
 rcases hl with ⟨rfl,rfl⟩|⟨x,k,n,rfl,hx,rfl⟩<;>rcases hh' with ⟨rfl,rfl⟩|⟨y,k',n',rfl,hy,rfl⟩<;>rcases hm with ⟨rfl,rfl⟩|⟨z,k'',n'',rfl,hz,rfl⟩ <;>
  simp only[Option.getD_none,Option.getD_some]at b1 b2 b3 b4
 simp[Instr.sliceBounds];simp at hmi;obtain⟨n',rfl⟩:=hZ (show 0<=n' by omega);simp[Instr.sliceBounds,hy,key k' n' cap _ (by omega)];obtain⟨n',rfl⟩:=hZ (show 0<=n' by omega);obtain⟨n'',rfl⟩:=hZ (show 0<=n'' by omega);simp[Instr.sliceBounds,hy,hz,key k'' n'' cap _ (by omega),key k' n' n'' _ (by omega)];obtain⟨n,rfl⟩:=hZ (show 0<=n by omega);simp[Instr.sliceBounds,hx,key k n len _ (by omega)];simp at hmi;obtain⟨n,rfl⟩:=hZ (show 0<=n by omega);obtain⟨n',rfl⟩:=hZ (show 0<=n' by omega);simp[Instr.sliceBounds,hx,hy,key k' n' cap _ (by omega),key k n n' _ (by omega)];obtain⟨n,rfl⟩:=hZ (show 0<=n by omega);obtain⟨n',rfl⟩:=hZ (show 0<=n' by omega);obtain⟨n'',rfl⟩:=hZ (show 0<=n'' by omega);simp[Instr.sliceBounds,hx,hy,hz,key k'' n'' cap _ (by omega),key k' n' n'' _ (by omega),key k n n' _ (by omega)]
variable(H:HpR num Fb B0 ρ w O h)
variable{k0:Nat}{l:List Operand}{vs:List AV}{v:AV}{eff:Eff}
variable(hv:aJ (Rv num ρ w (λb=>Fb b\/O b)) vs (l.map ρv))
include H hv
theorem aFu(lo hi:Bool)(hf:fitK P num o (.sls lo hi)=some l)(h1:op1 h k0 (.sls lo hi) vs=some (v,eff)):eC P num Fb B0 ρ w O h ρv o v eff:=by
 simp only[fitK]at hf;split at hf
 case h_2=>cases hf
 rename_i t x lo' hi' ho;obtain⟨hg,rfl⟩:=aL hf;simp only[aD,beq_iff_eq]at hg;obtain⟨⟨hs,rfl⟩,rfl⟩:=hg;simp only[List.append_assoc,List.cons_append,List.nil_append,List.map_cons]at hv;cases hv with
 |cons ha hr=>
  simp only[op1]at h1;split at h1
  case h_2=>cases h1
  rename_i s;split at h1
  case h_2=>cases h1
  rename_i lq r1 hq1;obtain⟨hr1,hlo⟩:=jF hq1 hr;split at h1
  case h_2=>cases h1
  rename_i hq hq2;obtain⟨hr2,hhi⟩:=jF (rest:=[]) hq2 (by simpa using hr1);split at h1
  case isFalse=>cases h1
  rename_i hb;obtain⟨b1,b2,b3⟩:=hb;obtain⟨rfl,rfl⟩:=bH h1;have hx:=ha.of_str;have hsz:(⟨s.toArray⟩:ByteArray).size=s.length:=by simp[ByteArray.size]
  have hrun:=sI (P:=P) (ρv := ρv) false s.length s.length hlo hhi (mx:=none) (m:=none) (.inl ⟨rfl,rfl⟩) (by simp) w b1 b2 (by simpa using b3) (by simp);refine .val H (cv:=.string ⟨((s.drop (lq.getD 0).toNat).take ((hq.getD s.length).toNat-(lq.getD 0).toNat)).toArray⟩) ?_ (.str _);have hex:(⟨s.toArray⟩:ByteArray).extract (lq.getD 0).toNat (hq.getD s.length).toNat=⟨((s.drop (lq.getD 0).toNat).take ((hq.getD s.length).toNat-(lq.getD 0).toNat)).toArray⟩:=by apply WideShapes.bytes_inj;rw[ByteArray.data_extract];simp
  simp only[Option.map_none]at hrun;simp[execOp,ho,run_sliceAt_string,Instr.sliceAt,run_underlying (iE hs),Instr.slice,hx,hsz,hrun,hex]
theorem aFv(esz:Nat)(lo hi mx:Bool)(hf:fitK P num o (.slc esz lo hi mx)=some l)(h1:op1 h k0 (.slc esz lo hi mx) vs=some (v,eff)):eC P num Fb B0 ρ w O h ρv o v eff:=by
 simp only[fitK]at hf;split at hf
 case h_2=>cases hf
 rename_i t x lo' hi' mx' ho;split at hf
 case h_2=>cases hf
 rename_i e hel;obtain⟨hg,rfl⟩:=aL hf;simp only[aD,beq_iff_eq]at hg;obtain⟨⟨⟨⟨hs,rfl⟩,rfl⟩,rfl⟩,hmi⟩:=hg;have hu:=gE hel;cases hie:P.info? e with
 |none=>simp[hie]at hs
 |some ie=>
 have hsz:ie.size=esz:=by simpa[hie] using hs
 simp only[List.append_assoc,List.cons_append,List.nil_append,List.map_cons]at hv;cases hv with
 |cons ha hr=>
  simp only[op1]at h1;split at h1
  case h_2=>cases h1
  rename_i lq r1 hq1;obtain⟨hr1,hlo⟩:=jF hq1 hr;split at h1
  case h_2=>cases h1
  rename_i hq r2 hq2;obtain⟨hr2,hhi⟩:=jF (rest:=mx'.toList) hq2 hr1;split at h1
  case h_2=>cases h1
  rename_i mq hq3;obtain⟨_,hmx⟩:=jF (rest:=[]) hq3 (by simpa using hr2);have hmi':mx'.isSome=true->hi'.isSome=true:=by intro q;simpa[q] using hmi
  have fin:∀(len cap:Nat)(a:Option Addr),ρv x = .slice a len cap->0<=lq.getD 0->lq.getD 0<=hq.getD len->hq.getD len<=mq.getD cap->mq.getD cap<=cap ->
    (execOp ρv o).run P w = .ok (.value (.slice (if (mq.getD cap).toNat=(lq.getD 0).toNat then a else a.map (·.add ((lq.getD 0).toNat*esz))) ((hq.getD len).toNat-(lq.getD 0).toNat) ((mq.getD cap).toNat-(lq.getD 0).toNat))) w:=by
   intro len cap a hx b1 b2 b3 b4;have hrun:=sI (P:=P) (ρv := ρv) true len cap hlo hhi hmx hmi' w b1 b2 b3 b4;simp[execOp,ho,Instr.sliceAt,run_underlying hu,Instr.slice,hx,hrun,eS w hie,hsz]
  rename_i a _ _ _;unfold kQ at h1;simp only at h1;split at h1;rename_i nl es cl;split at h1
  case isFalse=>cases h1
  rename_i hb;obtain⟨b1,b2,b3,b4,hall⟩:=hb;obtain⟨rfl,rfl⟩:=bH h1;have hcell:∀(i:Nat)(u:AV),es[i]?=some u->u.cells.length=esz:=by intro i u hu';have:=eK.1 hall u (List.mem_of_getElem? hu');simpa using this
  cases nl with
  |true=>
   obtain⟨rfl,hx⟩:=ha.of_nsl;simp only[List.length_nil]at b2 b3 b4;have hm0:mq.getD ((0:Nat):Int)<=((0:Nat):Int):=by
    rcases hmx with ⟨_,rfl⟩|⟨_,_,_,_,_,rfl⟩
    simp;simpa using b4
   have hh0:hq.getD ((0:Nat):Int)<=mq.getD ((0:Nat):Int):=by
    rcases hmx with ⟨_,rfl⟩|⟨_,_,_,_,_,rfl⟩
    simp at b3 b4 ⊢;exact b4;simpa using b3
   have hrun:=fin 0 0 none hx b1 b2 hh0 hm0;refine .val H hrun ?_;have:(hq.getD ((0:Nat):Int)).toNat-(lq.getD 0).toNat=0:=by omega
   have h2:(mq.getD ((0:Nat):Int)).toNat-(lq.getD 0).toNat=0:=by omega
   rw[this,h2];simp;exact .nsl _
  |false=>
   obtain⟨b,off,cap,sz,m,sp,hx,hsp,hc,hcl,hF,hz,hm,hrr⟩:=ha.of_sl;have hmc:mq.getD (cap:Int)<=(cap:Int):=by
    rcases hmx with ⟨_,rfl⟩|⟨_,_,_,_,_,rfl⟩
    simp;simp at b4 ⊢;omega
   have hhc:hq.getD (es.length:Int)<=mq.getD (cap:Int):=by
    rcases hmx with ⟨_,rfl⟩|⟨_,_,_,_,_,rfl⟩
    simp at b4 ⊢;omega;simpa using b3
   have hrun:=fin es.length cap _ hx b1 b2 hhc hmc;refine .val H hrun ?_;have hLen:((es.drop (lq.getD 0).toNat).take ((hq.getD es.length).toNat-(lq.getD 0).toNat)).length=(hq.getD es.length).toNat-(lq.getD 0).toNat:=by
    have:hq.getD (es.length:Int)<=(es.length:Int):=by
     rcases hmx with ⟨_,rfl⟩|⟨_,_,_,_,_,rfl⟩
     simp at b4 ⊢;omega;simp at b3 b4 ⊢;omega
    simp;omega
   have hclr:(if mq.isSome=true then mq.getD (hq.getD es.length)==hq.getD es.length else (false||cl)&&hq.getD es.length==(es.length:Int))=true ->
     (mq.getD (cap:Int)).toNat-(lq.getD 0).toNat=(hq.getD es.length).toNat-(lq.getD 0).toNat:=by
    rcases hmx with ⟨_,rfl⟩|⟨_,_,n,_,_,rfl⟩
    simp;intro q1 q2;have:=hcl q1;rw[q2,this];simp;simp;intro q1;rw[q1]
   generalize hL:(lq.getD 0).toNat=L at *;generalize hH:(hq.getD (es.length:Int)).toNat=Hh at *;generalize hM:(mq.getD (cap:Int)).toNat=M at *;generalize hes':(es.drop L).take (Hh-L)=es' at *;have hget:∀i u,es'[i]?=some u->es[L+i]?=some u:=by intro i u hu';rw[<-hes',List.getElem?_take]at hu';split at hu';rw[List.getElem?_drop]at hu';exact hu';cases hu'
   have hHM:Hh<=M:=by omega
   have hLH:L<=Hh:=by omega
   rw[<-hLen];by_cases hML:M=L;rw[if_pos hML];have:es'=[]:=gU (by omega);subst this;exact .sl [] _ b off _ sz m (by simp) (λq=>by have:=hclr q;simp;omega) (λq=>absurd rfl q) (by intro i u hu';simp at hu') (by simp) (by intro i u j y hu';simp at hu') sp (λq=>absurd rfl q);rw[if_neg hML];have hadd:(Addr.add ⟨b,off,sp⟩ (L*esz))=⟨b,off+L*esz,if L*esz=0 then sp else none⟩:=by unfold Addr.add;split;rename_i h0;simp[h0];rfl
   simp only[Option.map_some,hadd];have hsze:es' ≠ []->sz=esz:=by intro hne;obtain⟨u,r,rfl⟩:=List.exists_cons_of_ne_nil hne;have:=hget 0 u rfl;rw[<-hz _ _ this,hcell _ _ this]
   refine .sl es' _ b (off+L*esz) _ sz (λn=>m (L*sz+n)) (by omega) (λq=>by have:=hclr q;omega) ?_ (λi u hu'=>hz _ _ (hget i u hu')) ?_ ?_ _ ?_;intro hne;refine hF ?_;intro q;subst q;obtain⟨u,r,rfl⟩:=List.exists_cons_of_ne_nil hne;have:=hget 0 u rfl;simp at this;intro n hn;have hne:es' ≠ []:=by intro q;subst q;simp at hn
   have hs':=hsze hne;subst hs';rw[Nat.add_assoc];refine hm _ ?_;have h3:L+es'.length<=es.length:=by
    obtain⟨u,hu'⟩:∃u,es'[es'.length-1]?=some u:=by
     have:es'.length-1<es'.length:=by have:=List.length_pos_iff.2 hne;omega
     exact⟨_,cZ this⟩
    have h4:=hget _ _ hu';have h5:=(cF.1 h4).1;have:=List.length_pos_iff.2 hne;omega
   have h4:(L+es'.length)*sz<=es.length*sz:=Nat.mul_le_mul_right _ h3;rw[Nat.add_mul]at h4;omega;intro i u j y hu' hy;have:=hrr _ _ j y (hget i u hu') hy;rw[Nat.add_mul,Nat.add_assoc]at this;exact this;intro hne;split;refine hsp ?_;intro q;subst q;obtain⟨u,r,rfl⟩:=List.exists_cons_of_ne_nil hne;have:=hget 0 u rfl;simp at this;rfl
  rename_i k e' off len cap;split at h1
  case h_2=>cases h1
  rename_i e'' cs esz' ag' ti fz hgk;split at h1
  case isFalse=>
   split at h1
   case isFalse=>cases h1
   rename_i hb;obtain⟨rfl,b1,b2,b3,b4⟩:=hb;cases h1;obtain⟨cap',Lc,hx,hL,hlen,hcc,htt,hroom⟩:=ha.of_rf;have hm1:mq.getD (cap:Int)<=mq.getD (cap':Int)/\mq.getD (cap':Int)<=(cap':Int):=by
    rcases hmx with ⟨_,rfl⟩|⟨_,_,n,_,_,rfl⟩
    simp;omega;simp at b4 ⊢;omega
   obtain⟨m1,m2⟩:=hm1;have hrun:=fin len cap' _ hx b1 (by omega) (by omega) m2;refine .val H hrun ?_;have h0:(hq.getD (len:Int)).toNat-(lq.getD 0).toNat=0:=by omega
   rw[h0];simp only[Option.map_some,fN];split;exact .sl [] false _ _ _ 0 (λ_ => .bool false) (by simp) (by simp) (λq=>absurd rfl q) (by intro i u hu';simp at hu') (by simp) (by intro i u j y hu';simp at hu') none (λ_=>rfl);exact .sl [] false _ _ _ 0 (λ_ => .bool false) (by simp) (by simp) (λq=>absurd rfl q) (by intro i u hu';simp at hu') (by simp) (by intro i u j y hu';simp at hu') none (λ_=>rfl)
  rename_i hb;obtain⟨rfl,rfl,b1,b2,b3,b4,hti,hlm⟩:=hb;cases h1;obtain⟨cap',Lc,hx,hL,hlen,hcc,htt,hroom⟩:=ha.of_rf;obtain⟨L0,c,T,q1,q2,q3,_⟩:=H.blk _ _ _ _ _ _ _ hgk;rw[hL]at q1;cases q1;have hm1:mq.getD (cap:Int)<=mq.getD (cap':Int)/\mq.getD (cap':Int)<=(cap':Int)/\(ti=true->mq.getD (cap':Int)=mq.getD (cap:Int))/\(mq=none->mq.getD (cap':Int)=cap'/\mq.getD (cap:Int)=cap):=by
   rcases hmx with ⟨_,rfl⟩|⟨_,_,n,_,_,rfl⟩
   simp;exact⟨by omega,λq=>by rw[htt (by rw[q2];exact q)]⟩;simp at b4 ⊢;omega
  obtain⟨m1,m2,m3,m4⟩:=hm1;have hrun:=fin len cap' _ hx b1 b2 (by omega) m2;refine .val H hrun ?_;have hsn:ti=true\/mq=none:=by
   rcases hmx with ⟨_,rfl⟩|⟨_,_,n,_,_,rfl⟩
   exact .inr rfl;simp at hti;exact .inl hti
  generalize hLn:lq.getD 0=ln at *;generalize hHn:hq.getD (len:Int)=hn at *;generalize hMn:mq.getD (cap:Int)=mn at *;generalize hMn':mq.getD (cap':Int)=mn' at *;have hmm:(ti=true->mn'=mn):=m3;simp only[Option.map_some,fN];have haddr:(if mn'.toNat=ln.toNat then some (⟨Lc.b,Lc.base+off,none⟩:Addr) else some ⟨Lc.b,Lc.base+off+ln.toNat*Lc.esz,none⟩)=some ⟨Lc.b,Lc.base+(if mn=ln then off else off+ln.toNat*Lc.esz),none⟩:=by
   by_cases h0:ln=0;subst h0;simp;by_cases h2:mn=ln;have h3:ti=true:=by rcases hlm with q|q|q<;>first|omega|exact q
   have:=hmm h3;rw[if_pos (by omega),if_pos h2];rw[if_neg (by omega),if_neg h2];rw[Nat.add_assoc]
  have haddr':(if mn'.toNat=ln.toNat then some (⟨Lc.b,Lc.base+off,none⟩:Addr) else some ⟨Lc.b,Lc.base+off+ln.toNat*esz',none⟩)=some ⟨Lc.b,Lc.base+(if mn=ln then off else off+ln.toNat*esz'),none⟩:=by rw[q3]at haddr;exact haddr
  rw[haddr'];refine .rf _ _ _ _ _ _ Lc hL (by omega) (by omega) (λq=>by rw[hmm (by rw[<-q2];exact q)]) ?_;rw[q3]at hroom ⊢;have hmul:∀a b:Nat,a<=b->a*esz'<=b*esz':=λa b q=>Nat.mul_le_mul_right _ q;by_cases h2:mn=ln;rw[if_pos h2];by_cases h0:ln=0;have:=hmul (mn'.toNat-ln.toNat) cap' (by omega);omega;have h3:ti=true:=by rcases hlm with q|q|q<;>first|omega|exact q
  have:=hmm h3;have h4:mn'.toNat-ln.toNat=0:=by omega
  rw[h4];omega;rw[if_neg h2];have h5:=hmul mn'.toNat cap' (by omega);have h6:mn'.toNat*esz'=ln.toNat*esz'+(mn'.toNat-ln.toNat)*esz':=by rw[<-Nat.add_mul];congr 1;omega
  omega;cases h1
end
end
section
open Go.RowKit
theorem kP(zero:List AV)(n i:Nat)(hi:i<n*zero.length):((List.replicate n zero).flatten)[i]?=zero[i % zero.length]?:=by
 have hz:∀(k:Nat)(v:AV),(List.replicate n (AV.agg zero))[k]?=some v->v.cells.length=zero.length:=by intro k v hv;rw[List.getElem?_replicate]at hv;split at hv;cases hv;rfl;cases hv
 have hfl:(List.replicate n zero).flatten=eO (List.replicate n (AV.agg zero)):=by
  unfold eO
  induction n with
  |zero=>rfl
  |succ n ih=>simp[List.replicate_succ,AV.cells,List.flatMap]at *
 have hpos:0<zero.length:=by rcases Nat.eq_zero_or_pos zero.length with q|q;simp[q]at hi;exact q
 have h1:=oA hz (i / zero.length) (i % zero.length) (Nat.mod_lt _ hpos);rw[Nat.mul_comm,Nat.div_add_mod]at h1;rw[hfl,h1,List.getElem?_replicate,if_pos (Nat.div_lt_of_lt_mul (by rw[Nat.mul_comm];exact hi))];rfl
section
variable{P:Program}{num:Nm}{Fb:Nat->Prop}{B0:Nat}{ρ : Rho}{w:World}{O:Nat->Prop}{h:Hp}{ρv:Operand->Value}{o:Oper}
theorem LR{F:Nat->Prop}{zero:List AV}{z:Array Value}(hz:aJ (Rv num ρ w F) zero z.toList)(n:Nat) :
  aJ (Rv num ρ w F) (List.replicate n zero).flatten (madeCells z (n*zero.length)).toList:=by
 have hl:z.size=zero.length:=by simpa using hz.length.symm
 refine aJ.of_get (by simp[madeCells]) ?_;intro i x y hx hy;have hi:i<n*zero.length:=by rcases Nat.lt_or_ge i (List.replicate n zero).flatten.length with q|q;simpa using q;simp[cY q]at hx
 have hpos:0<zero.length:=by rcases Nat.eq_zero_or_pos zero.length with q|q;simp[q]at hi;exact q
 rw[kP zero n i hi]at hx;have hm:i % zero.length<zero.length:=Nat.mod_lt _ hpos;simp[madeCells,hi,hl,hm]at hy;subst hy;refine hz.get (i % zero.length) x _ hx ?_;have:i % zero.length<z.size:=by omega
 simp[this]
variable(H:HpR num Fb B0 ρ w O h)
variable{k0:Nat}{l:List Operand}{vs:List AV}{v:AV}{eff:Eff}
variable(hv:aJ (Rv num ρ w (λb=>Fb b\/O b)) vs (l.map ρv))
include H
theorem qN{esz:Nat}{ag:Bool}{y:AV}{y':Value}{cs:List AV}{n:Nat}{rd:List Nat}(hy:Rv num ρ w (λb=>Fb b\/O b) y y')(hs:bM h esz ag y=some (cs,n,rd)) :
  ∃cc:List Value,aJ (Rv num ρ w (λb=>Fb b\/O b)) cs cc/\cs.length=n*esz/\bC cs=true /\
   (((∃p cap,y' = .slice p 0 cap)/\n=0)\/(∃b off cap,y' = .slice (some ⟨b,off,none⟩) n cap/\∀j v,cc[j]?=some v->w.cell? ⟨b,off+j,none⟩=some v) \/
    (∃s:List UInt8,y' = .string ⟨s.toArray⟩/\esz=1/\n=s.length/\cc=s.map λb => .int .u8 b.toNat)):=by
 unfold bM at hs;split at hs;rename_i nl es cl;cases hu:aP esz ag es with
 |none=>simp[hu]at hs
 |some cs'=>
  simp[hu]at hs;obtain⟨rfl,rfl,rfl⟩:=hs;obtain⟨rfl,hfits⟩:=l6 hu;have hfl:(eO es).length=es.length*esz:=iQ (λi u hu=>(AV.fits_cells (hfits i u hu).1).1);have hone:bC (eO es)=true:=u3 (λi u hu=>(hfits i u hu).2);cases nl with
  |true=>obtain⟨rfl,hx⟩:=hy.of_nsl;exact⟨[],.nil,by simp[eO],rfl,.inl ⟨⟨_,_,hx⟩,rfl⟩⟩
  |false=>
   obtain⟨b,off,cap,sz,m,sp,hx,hsp,hc,hcl,hF,hz,hm,hr⟩:=hy.of_sl;by_cases hnil:es=[]
   subst hnil;exact⟨[],.nil,by simp[eO],rfl,.inl ⟨⟨_,_,hx⟩,rfl⟩⟩;rw[hsp hnil]at hx;have hsz:es≠[]->sz=esz:=by intro hne;obtain⟨u,r,rfl⟩:=List.exists_cons_of_ne_nil hne;rw[<-hz 0 u rfl,(AV.fits_cells (hfits 0 u rfl).1).1]
   refine⟨(List.range (es.length*esz)).map m,?_,hfl,hone,.inr (.inl ⟨b,off,cap,hx,?_⟩)⟩;refine aJ.of_get (by simp[hfl]) ?_;intro i x y hx' hy';have hi:i<es.length*esz:=by rcases Nat.lt_or_ge i (eO es).length with q|q;omega;simp[cY q]at hx'
   have hne:es≠[]:=by intro q;subst q;simp at hi
   have hs':=hsz hne;subst hs';have hpos:0<sz:=by rcases Nat.eq_zero_or_pos sz with q|q;simp[q]at hi;exact q
   have hdm:i / sz*sz+i % sz=i:=by rw[Nat.mul_comm];exact Nat.div_add_mod i sz
   have hg:=oA (sz:=sz) (vs:=es) (λi u hu=>(AV.fits_cells (hfits i u hu).1).1) (i / sz) (i % sz) (Nat.mod_lt _ hpos);rw[hdm,hx']at hg;have hil:i / sz<es.length:=Nat.div_lt_of_lt_mul (by rw[Nat.mul_comm];exact hi);have he:es[i / sz]?=some es[i / sz]:=by simp[hil]
   rw[he]at hg;simp only[Option.bind_some]at hg;have:=hr (i / sz) _ (i % sz) x he hg.symm;rw[hdm]at this;simp[hi]at hy';subst hy';exact this;intro j u hj;have hi:j<es.length*esz:=by rcases Nat.lt_or_ge j ((List.range (es.length*esz)).map m).length with q|q;simpa using q;simp[cY q]at hj
   have hne:es≠[]:=by intro q;subst q;simp at hi
   have hs':=hsz hne;subst hs';simp[hi]at hj;subst hj;exact hm j hi
 rename_i s;split at hs
 case isFalse=>cases hs
 rename_i hc;obtain⟨rfl,rfl⟩:=hc;cases hs;refine⟨s.map λb => .int .u8 b.toNat,?_,by simp,?_,.inr (.inr ⟨s,hy.of_str,rfl,rfl,rfl⟩)⟩;refine aJ.of_get (by simp) ?_;intro i x y hx' hy';simp at hx' hy';obtain⟨a,h1,rfl⟩:=hx';obtain⟨b,h2,rfl⟩:=hy';rw[h1]at h2;cases h2;exact .int _ _;clear hy
 induction s with
 |nil=>rfl
 |cons a s ih=>simp[bC,AV.one];simpa using ih
 rename_i k e off len cap;split at hs
 case h_2=>cases hs
 rename_i e' cs' esz' ag' ti fz hgk;split at hs
 case isFalse=>cases hs
 rename_i hc;obtain⟨rfl,hle,hone⟩:=hc;cases hs;obtain⟨cap',L,hx,hL,_⟩:=hy.of_rf;obtain⟨L0,c,T,q1,q2,q3,q4,q5,q6,q7,_⟩:=H.blk _ _ _ _ _ _ _ hgk;rw[hL]at q1;cases q1;have hlen:((cs'.drop off).take (n*esz)).length=n*esz:=by simp;omega
 refine⟨(List.range (n*esz)).map λi=>c.getD (L.base+off+i) undef,?_,hlen,hone,.inr (.inl ⟨L.b,L.base+off,cap',hx,?_⟩)⟩;refine aJ.of_get (by simp;omega) ?_;intro i x y hx' hy';rw[List.getElem?_take]at hx';split at hx'
 case isFalse=>cases hx'
 rename_i hi;rw[List.getElem?_drop]at hx';simp[hi]at hy';subst hy';obtain⟨y,hy,hr⟩:=q7 _ _ hx';rw[<-Nat.add_assoc]at hy;simp[hy];exact hr;intro j u hj;have hi:j<n*esz:=by rcases Nat.lt_or_ge j ((List.range (n*esz)).map λi=>c.getD (L.base+off+i) undef).length with q|q;simpa using q;rw[cY q]at hj;cases hj
 simp[hi]at hj;have hlt:L.base+off+j<c.size:=by omega
 simp[World.cell?,q4,hlt];simpa[hlt] using hj;cases hs
include hv
theorem aFC(esz:Nat)(ag:Bool)(bytes:Nat)(zero:List AV)(hf:fitK P num o (.mks esz ag bytes zero)=some l)(h1:op1 h k0 (.mks esz ag bytes zero) vs=some (v,eff)):eC P num Fb B0 ρ w O h ρv o v eff:=by
 simp only[fitK]at hf;split at hf
 case h_2=>cases hf
 rename_i t x y ho;split at hf
 case h_2=>cases hf
 rename_i e hel;obtain⟨hg,rfl⟩:=aL hf;simp only[aD]at hg;obtain⟨⟨hft,hfb⟩,hfz⟩:=hg;obtain⟨a,b,rfl,ha,hb⟩:=hv.two;simp only[op1]at h1;split at h1
 case h_2=>cases h1
 rename_i kl ln kc cn;split at h1
 case isFalse=>cases h1
 rename_i hc;obtain⟨h0,hlc,hcm,hbm,hze⟩:=hc;simp only[nM,aU,bA]at h1;obtain⟨rfl,rfl⟩:=h1;have hu:=gE hel;obtain⟨ie,z,hie,hz,hfz'⟩:=fitZ_eq hfz;obtain⟨ie',hie',hsz,_⟩:=fitT_eq hft;rw[hie]at hie';cases hie';have hby:ie.bytes=bytes:=by simpa[fitB,hie] using hfb
 obtain⟨cn,rfl⟩:=hZ (show 0<=cn by omega);obtain⟨ln,rfl⟩:=hZ h0;have hbytes:(ie.bytes:Int)*(cn:Int)<=281474976710656:=by
  rw[hby];have h2:bytes*cn<=65536*1073741824:=Nat.mul_le_mul hbm (by omega);have h3:((bytes*cn:Nat):Int)<=281474976710656:=by omega
  rwa [Int.natCast_mul]at h3
 have hrun:=run_make (P:=P) w t e ie z hu hie hz kl kc ln cn h0 hlc hbytes (by omega);simp only[Int.toNat_natCast]at hrun;have hzz:aJ (Rv num ρ w (λb=>Fb b\/O b)) zero z.cells.toList:=fitL_sound hfz';have hall:=LR hzz cn;rw[hze]at hall;have hsize:(madeCells z.cells (cn*esz)).size=cn*esz:=size_madeCells _ _
 obtain⟨ev,H'⟩:=H.new (k:=k0) (cs:=(List.replicate cn zero).flatten) (esz:=esz) (ag:=ag) (ti:=true) (c:=madeCells z.cells (cn*esz)) (T:=e) (cn*esz) (gJ w _) (by omega)
  (by simp[hze]) (λi y hy=>by
   have hi:i<(madeCells z.cells (cn*esz)).size:=by rcases Nat.lt_or_ge i ((List.replicate cn zero).flatten).length with q|q;have:=hall.length;simp at this q;omega;simp[cY q]at hy
   exact⟨(madeCells z.cells (cn*esz))[i],by simp[hi],hall.get i y _ hy (by simp[hi])⟩)
 simp only[Int.toNat_natCast];refine⟨_,.slice (some ⟨w.heap.size,0,none⟩) ln cn,_,_,_,?_,.inl rfl,ev,H',?_⟩;have e1:=ha.of_int;have e2:=hb.of_int;rw[hsz]at hrun;simp[execOp,ho,e1,e2,hrun];exact .rf _ _ _ _ _ _ _ (Rho.set_same _ _ _ _) (by omega) (Nat.le_refl _) (λ_=>rfl) (by simp)
theorem aFx(hf:fitK P num o .s2b=some l)(h1:op1 h k0 .s2b vs=some (v,eff)):eC P num Fb B0 ρ w O h ρv o v eff:=by
 simp only[fitK]at hf;split at hf
 case h_2=>cases hf
 rename_i src dst x ho;obtain⟨hg,rfl⟩:=aL hf;simp only[aD]at hg;obtain⟨hs,hd⟩:=hg;split at hd
 case h_2=>cases hd
 rename_i e hel;obtain⟨a,rfl,ha⟩:=hv.one;simp only[op1]at h1;split at h1
 case h_2=>cases h1
 rename_i s;obtain⟨rfl,rfl⟩:=bH h1;have hx:=ha.of_str;have hrun:=run_bytes_of_string (P:=P) w src dst e ⟨s.toArray⟩ (iE hs) (gE hel) (xQ hd);have hsz:(⟨s.toArray⟩:ByteArray).size=s.length:=by simp[ByteArray.size]
 rw[hsz]at hrun;obtain⟨ev,H'⟩:=H.pushed (hX w (.cells (bytesRow ⟨s.toArray⟩ (grownCap w s.length 0 e)) e ((bytesRow ⟨s.toArray⟩ (grownCap w s.length 0 e)).size,(bytesRow ⟨s.toArray⟩ (grownCap w s.length 0 e)).size+1)));refine⟨_,.slice (some ⟨w.heap.size,0,none⟩) s.length (grownCap w s.length 0 e),_,ρ,O,by simp[execOp,ho,hx,hrun],.inl rfl,ev,H',?_⟩;have hrow:∀j (hj:j<s.length),(bytesRow ⟨s.toArray⟩ (grownCap w s.length 0 e))[j]?=some (.int .u8 (s[j].toNat:Int)):=by intro j hj;have:=bytesRow_at ⟨s.toArray⟩ (grownCap w s.length 0 e) j (by simpa using hj);simpa using this
 have key:=Rv.sl (num:=num) (ρ := ρ) (w:=w.drew.alloc (.cells (bytesRow ⟨s.toArray⟩ (grownCap w s.length 0 e)) e ((bytesRow ⟨s.toArray⟩ (grownCap w s.length 0 e)).size,(bytesRow ⟨s.toArray⟩ (grownCap w s.length 0 e)).size+1)))
  (F:=λb=>Fb b\/O b) (s.map λb=>AV.int .u8 b.toNat) false w.heap.size 0 (grownCap w s.length 0 e) 1 (λi => .int .u8 ((s.getD i 0).toNat:Int)) (by simpa using qA w s.length 0 e) (λq=>by cases q)
   (λ_=>⟨λq=>by
     rcases q with q|q;have:=H.fbl _ q;have:=H.le;omega;have:=(H.own _ q).2;omega,by simp⟩)
   (by intro i u hu;simp at hu;obtain⟨b,_,rfl⟩:=hu;rfl)
   (by
    intro n hn;simp at hn;have:=hrow n hn;simp only[Nat.zero_add];have hc:(w.drew.alloc (.cells (bytesRow ⟨s.toArray⟩ (grownCap w s.length 0 e)) e ((bytesRow ⟨s.toArray⟩ (grownCap w s.length 0 e)).size,(bytesRow ⟨s.toArray⟩ (grownCap w s.length 0 e)).size+1))).cell? ⟨w.heap.size,n,none⟩=(bytesRow ⟨s.toArray⟩ (grownCap w s.length 0 e))[n]?:=by
     have hh:(w.drew.alloc (.cells (bytesRow ⟨s.toArray⟩ (grownCap w s.length 0 e)) e ((bytesRow ⟨s.toArray⟩ (grownCap w s.length 0 e)).size,(bytesRow ⟨s.toArray⟩ (grownCap w s.length 0 e)).size+1))).heap[w.heap.size]?=some (.cells (bytesRow ⟨s.toArray⟩ (grownCap w s.length 0 e)) e ((bytesRow ⟨s.toArray⟩ (grownCap w s.length 0 e)).size,(bytesRow ⟨s.toArray⟩ (grownCap w s.length 0 e)).size+1)):=
      (hX w _).new
     simp only[World.cell?,hh,Option.isSome_none,Bool.false_eq_true,if_false]
    rw[hc,this];simp[hn])
   (by
    intro i u j x hu hx;simp at hu;obtain⟨b,hb,rfl⟩:=hu;cases j with
    |zero=>simp[AV.cells]at hx;subst hx;simp[hb];exact .int _ _
    |succ j=>simp[AV.cells]at hx)
 simpa using key none (λ_=>rfl)
theorem aGe(hf:fitK P num o .b2s=some l)(h1:op1 h k0 .b2s vs=some (v,eff)):eC P num Fb B0 ρ w O h ρv o v eff:=by
 simp only[fitK]at hf;split at hf
 case h_2=>cases hf
 rename_i src dst x ho;obtain⟨hg,rfl⟩:=aL hf;simp only[aD]at hg;obtain⟨hs,hd⟩:=hg;split at hd
 case h_2=>cases hd
 rename_i e hel;obtain⟨a,rfl,ha⟩:=hv.one;simp only[op1]at h1;split at h1
 case h_2=>cases h1
 rename_i cs n rd hsrc;split at h1
 case h_2=>cases h1
 rename_i bs hbs;cases h1;have hns:∀q,a ≠ .str q:=by intro q e';subst e';simp at hsrc
 have hsrc':bM h 1 false a=some (cs,n,rd):=by cases a<;>first|exact hsrc|exact absurd rfl (hns _)
 obtain⟨cc,hall,hlen,hone,hcase⟩:=qN H ha hsrc';have hbl:∀(cs:List AV)(bs:List UInt8),nE cs=some bs->bs.length=cs.length/\∀j (hj:j<bs.length),cs[j]?=some (.int .u8 (bs[j].toNat:Int)):=by
  intro cs
  induction cs with
  |nil=>intro bs hb;simp[nE]at hb;subst hb;exact⟨rfl,by intro j hj;simp at hj⟩
  |cons c cs ih=>
   intro bs hb;unfold nE at hb;split at hb;rename_i heq;cases heq;rename_i n r heq;cases heq;split at hb
   case isFalse=>cases hb
   rename_i hn;cases hr:nE cs with
   |none=>simp[hr]at hb
   |some r=>
    simp[hr]at hb;subst hb;obtain⟨i1,i2⟩:=ih r hr;refine⟨by simp[i1],?_⟩;intro j hj;cases j with
    |zero=>simp;omega
    |succ j=>simpa using i2 j (by simpa using hj)
   cases hb
 obtain⟨l1,l2⟩:=hbl cs bs hbs;refine .val H (cv:=.string ⟨bs.toArray⟩) ?_ (.str _);rcases hcase with ⟨⟨p,cap,hx⟩,rfl⟩|⟨b,off,cap,hx,hcell⟩|⟨s,hx,_,_,_⟩
 have:bs=[]:=gU (by omega);subst this;cases p with
 |none=>have hrun:=run_convert_bytes_nil (P:=P) (w:=w) (dst:=dst) src e (gE hel) (xQ hd) 0 cap (iE hs);simp[execOp,ho,hx,hrun];rfl
 |some a=>have hrun:=run_convert_bytes_back (P:=P) w src dst e a cap [] (gE hel) (xQ hd) (iE hs) (by intro j hj;simp at hj);simp only[List.length_nil]at hrun;simp[execOp,ho,hx,hrun]
 have hnb:bs.length=n:=by omega
 have hrun:=run_convert_bytes_back (P:=P) w src dst e ⟨b,off,none⟩ cap bs (gE hel) (xQ hd) (iE hs) (by
  intro j hj;rw[fN];have hcj:j<cc.length:=by have:=hall.length;omega
  have h3:=hcell j cc[j] (by simp[hcj]);rw[h3];have h4:=hall.get j _ cc[j] (l2 j hj) (by simp[hcj]);rw[h4.of_int])
 rw[hnb]at hrun;simp[execOp,ho,hx,hrun];exfalso;rw[hx]at ha;cases ha with
 |top=>simp[bM]at hsrc'
 |str=>exact hns _ rfl
theorem aFw(len esz:Nat)(lo hi:Bool)(hf:fitK P num o (.sla len esz lo hi)=some l)(h1:op1 h k0 (.sla len esz lo hi) vs=some (v,eff)):eC P num Fb B0 ρ w O h ρv o v eff:=by
 simp only[fitK]at hf;split at hf
 case h_2=>cases hf
 rename_i t x lo' hi' ho;obtain⟨hg,rfl⟩:=aL hf;simp only[aD,beq_iff_eq]at hg;obtain⟨⟨hs,rfl⟩,rfl⟩:=hg;split at hs
 case h_2=>cases hs
 rename_i n e hu;simp only[aD,beq_iff_eq]at hs;obtain⟨rfl,hs⟩:=hs;cases hie:P.info? e with
 |none=>simp[hie]at hs
 |some ie=>
 have hsz:ie.size=esz:=by simpa[hie] using hs
 simp only[List.append_assoc,List.cons_append,List.nil_append,List.map_cons]at hv;cases hv with
 |cons ha hr=>
  simp only[op1]at h1;split at h1
  case h_2=>cases h1
  rename_i k e' off;split at h1
  case h_2=>cases h1
  rename_i lq r1 hq1;obtain⟨hr1,hlo⟩:=jF hq1 hr;split at h1
  case h_2=>cases h1
  rename_i hq hq2;obtain⟨hr2,hhi⟩:=jF (rest:=[]) hq2 (by simpa using hr1);split at h1
  case h_2=>cases h1
  rename_i e'' cs esz' ag fz hgk;split at h1
  case isFalse=>cases h1
  rename_i hb;obtain⟨rfl,he,b1,b2,b3,hle⟩:=hb;cases h1;obtain⟨L,hx,hL⟩:=ha.of_pt;obtain⟨L0,c,T,q1,q2,q3,q4,q5,q6,q7,_⟩:=H.blk _ _ _ _ _ _ _ hgk;rw[hL]at q1;cases q1;have hrun:=sI (P:=P) (ρv := ρv) false n n hlo hhi (mx:=none) (m:=none) (.inl ⟨rfl,rfl⟩) (by simp) w b1 b2 (by simpa using b3) (by simp);simp only[Option.map_none]at hrun;have hr2:(execOp ρv o).run P w = .ok (.value (.slice (some (if n=(lq.getD 0).toNat then ⟨L.b,L.base+off,none⟩ else ⟨L.b,L.base+off+(lq.getD 0).toNat*esz,none⟩)) ((hq.getD n).toNat-(lq.getD 0).toNat) (n-(lq.getD 0).toNat))) w:=by simp[execOp,ho,Instr.sliceAt,run_underlying hu,hx,Instr.sureAddr,hrun,eS w hie,hsz,fN]
  refine .val H hr2 ?_;generalize hLn:lq.getD 0=ln at *;generalize hHn:hq.getD (n:Int)=hn at *;have haddr:(if n=ln.toNat then (⟨L.b,L.base+off,none⟩:Addr) else ⟨L.b,L.base+off+ln.toNat*esz,none⟩)=⟨L.b,L.base+(if (n:Int)=ln then off else off+ln.toNat*esz),none⟩:=by by_cases h2:(n:Int)=ln;rw[if_pos (by omega),if_pos h2];rw[if_neg (by omega),if_neg h2,Nat.add_assoc]
  rw[haddr];refine .rf _ _ _ _ _ _ L hL (by omega) (Nat.le_refl _) (λ_=>rfl) ?_;rw[q3,he];by_cases h2:(n:Int)=ln;rw[if_pos h2];have:n-ln.toNat=0:=by omega
  rw[this];omega;rw[if_neg h2];have h6:n*esz=ln.toNat*esz+(n-ln.toNat)*esz:=by rw[<-Nat.add_mul];congr 1;omega
  omega
end
end
section
open Go.RowKit
section
variable{P:Program}
theorem EY{tys:Array TypeId}{ty t u e:TypeId}{d:TypeDesc}{i:TypeInfo}{x':Value}{b off sLen sCap n:Nat}{cc:List Value}(w:World)(h0:tys[0]?=some t)(h1:tys[1]?=some u)
  (ht:P.underlying t=some (.slice e)) (hu:P.underlying u=some d) (hd:d = .string\/∃e',d = .slice e') (hi:P.info? e=some i) (hl:(Builtin.lenOf x').run P w = .ok n w) (hf:(Builtin.firstCells i.size n x').run P w = .ok cc.toArray w)
  (hroom:sLen+n<=sCap) (hst:(storeCells ⟨b,off+sLen*i.size,none⟩ cc).run P w = .ok () (w.setCells b (off+sLen*i.size) cc)) :
  (Builtin.append_ tys ty #[.slice (some ⟨b,off,none⟩) sLen sCap,x']).run P w = .ok (.slice (some ⟨b,off,none⟩) (sLen+n) sCap) (w.setCells b (off+sLen*i.size) cc):=by
 rcases hd with rfl|⟨e',rfl⟩ <;>
  simp[Builtin.append_,h0,h1,run_underlying ht,run_underlying hu,sizeOf,typeInfo,hi,hl,hroom,hf,fN,hst]
theorem EZ{tys:Array TypeId}{ty t u e:TypeId}{d:TypeDesc}{i:TypeInfo}{x':Value}(w:World)(h0:tys[0]?=some t)(h1:tys[1]?=some u)
  (ht:P.underlying t=some (.slice e)) (hu:P.underlying u=some d) (hd:d = .string\/∃e',d = .slice e') (hi:P.info? e=some i) (hl:(Builtin.lenOf x').run P w = .ok 0 w) (hf:(Builtin.firstCells i.size 0 x').run P w = .ok #[] w) :
  (Builtin.append_ tys ty #[.slice none 0 0,x']).run P w = .ok (.slice none 0 0) w:=by
 rcases hd with rfl|⟨e',rfl⟩ <;>
  simp[Builtin.append_,h0,h1,run_underlying ht,run_underlying hu,sizeOf,typeInfo,hi,hl,hf]
theorem EX{tys:Array TypeId}{ty t u e:TypeId}{d:TypeDesc}{i:TypeInfo}{x':Value}{a:Addr}{sLen sCap:Nat}(w:World)(h0:tys[0]?=some t)(h1:tys[1]?=some u)
  (ht:P.underlying t=some (.slice e)) (hu:P.underlying u=some d) (hd:d = .string\/∃e',d = .slice e') (hi:P.info? e=some i) (hl:(Builtin.lenOf x').run P w = .ok 0 w) (hf:(Builtin.firstCells i.size 0 x').run P w = .ok #[] w)
  (hroom:sLen<=sCap):(Builtin.append_ tys ty #[.slice (some a) sLen sCap,x']).run P w = .ok (.slice (some a) sLen sCap) w:=by
 rcases hd with rfl|⟨e',rfl⟩ <;>
  simp[Builtin.append_,h0,h1,run_underlying ht,run_underlying hu,sizeOf,typeInfo,hi,hl,hroom,hf,storeCells]
theorem ES{tys:Array TypeId}{ty t u e:TypeId}{ki kv:IntKind}{i:TypeInfo}{a:Addr}{sLen sCap:Nat}(w:World)(h0:tys[0]?=some t)(h1:tys[1]?=some u)
  (ht:P.underlying t=some (.slice e)) (hu:P.underlying u=some (.int ki)) (hi:P.info? e=some i)
  (hroom:sLen<=sCap):(Builtin.append_ tys ty #[.slice (some a) sLen sCap,.int kv ((0:Nat):Int)]).run P w = .ok (.slice (some a) sLen sCap) w:=by
 have wl:IntKind.i64.wrap ((0:Nat):Int)=0:=by rw[IntKind.wrap_i64];omega
 simp[Builtin.append_,h0,h1,run_underlying ht,run_underlying hu,sizeOf,typeInfo,hi,asInt,asIntOf,wl,hroom,storeCells]
 try simp_all
theorem E0{tys:Array TypeId}{ty t u e:TypeId}{d:TypeDesc}{i:TypeInfo}{z:Value}{x':Value}{a:Option Addr}{sLen sCap n:Nat}{cc oc:List Value}(w:World)(h0:tys[0]?=some t)(h1:tys[1]?=some u)
  (ht:P.underlying t=some (.slice e)) (hu:P.underlying u=some d) (hd:d = .string\/∃e',d = .slice e') (hi:P.info? e=some i) (hz:i.zero=some z) (hl:(Builtin.lenOf x').run P w = .ok n w)
  (hf:(Builtin.firstCells i.size n x').run P w.drew = .ok cc.toArray w.drew) (hfo:(Builtin.firstCells i.size sLen (.slice a sLen sCap)).run P w.drew = .ok oc.toArray w.drew)
  (hg:sCap<sLen+n) (hm:sLen+n<=1073741824) (hb:i.bytes<=65536) :
  (Builtin.append_ tys ty #[.slice a sLen sCap,x']).run P w = .ok (.slice (some ⟨w.heap.size,0,none⟩) (sLen+n) (grownCap w (sLen+n) sCap e))
   (w.drew.alloc (.cells (oc++cc++(Builtin.zeroCells z.cells (grownCap w (sLen+n) sCap e-(sLen+n))).toList).toArray e)):=by
 have hn:¬(sLen+n<=sCap):=by omega
 have h63':¬(9223372036854775807<((sLen:Int)+(n:Int))):=by omega
 have hfit:Builtin.nextslicecap (sLen+n) sCap*i.bytes<=281474976710656:=growslice_fits hg (by
  have:(sLen+n)*i.bytes<=1073741824*65536:=Nat.mul_le_mul hm hb;omega)
 have h48':¬(281474976710656<Builtin.nextslicecap (sLen+n) sCap*i.bytes):=by omega
 rcases hd with rfl|⟨e',rfl⟩ <;>
  (simp[Builtin.append_,h0,h1,run_underlying ht,run_underlying hu,sizeOf,typeInfo,zeroValue,hi,hz,hl,hn,h63',h48',Question.forced,hf,hfo,newRow,grownCap]
   try (congr 2;apply Array.ext';simp[List.append_assoc]))
theorem ET{tys:Array TypeId}{ty t u e:TypeId}{ki kv:IntKind}{i:TypeInfo}{z:Value}{b off sLen sCap n:Nat}(w:World)(h0:tys[0]?=some t)(h1:tys[1]?=some u)
  (ht:P.underlying t=some (.slice e)) (hu:P.underlying u=some (.int ki)) (hi:P.info? e=some i) (hz:i.zero=some z) (hnm:n<=1073741824) (hb:i.bytes<=65536)
  (hroom:sLen+n<=sCap) (hcells:z.cells.size=i.size)
  (hst:(storeCells ⟨b,off+sLen*i.size,none⟩ (Builtin.zeroCells z.cells n).toList).run P w = .ok () (w.setCells b (off+sLen*i.size) (Builtin.zeroCells z.cells n).toList)) :
  (Builtin.append_ tys ty #[.slice (some ⟨b,off,none⟩) sLen sCap,.int kv (n:Int)]).run P w = .ok (.slice (some ⟨b,off,none⟩) (sLen+n) sCap) (w.setCells b (off+sLen*i.size) (Builtin.zeroCells z.cells n).toList):=by
 have wl:IntKind.i64.wrap (n:Int)=n:=by rw[IntKind.wrap_i64];omega
 have n1:¬(n:Int)<0:=by omega
 have n2:¬(281474976710656<(n:Int)*(i.bytes:Int)):=by
  have:n*i.bytes<=1073741824*65536:=Nat.mul_le_mul hnm hb;have h3:((n*i.bytes:Nat):Int)<=281474976710656:=by omega
  rw[Int.natCast_mul]at h3;omega
 by_cases hn:n*i.size=0;have he:Builtin.zeroCells z.cells n = #[]:=by apply Array.eq_empty_of_size_eq_zero;rw[size_zeroCells,hcells];exact hn
 rw[he]at hst ⊢;simp[Builtin.append_,h0,h1,run_underlying ht,run_underlying hu,sizeOf,typeInfo,hi,asInt,asIntOf,wl,n1,n2,hroom,hn,fN];simp at hst ⊢;simp[hst];simp[Builtin.append_,h0,h1,run_underlying ht,run_underlying hu,sizeOf,typeInfo,zeroValue,hz,hi,asInt,asIntOf,wl,n1,n2,hroom,hn,fN,hst]
theorem EU{tys:Array TypeId}{ty t u e:TypeId}{ki kv:IntKind}{i:TypeInfo}(w:World)(h0:tys[0]?=some t)(h1:tys[1]?=some u)
  (ht:P.underlying t=some (.slice e)) (hu:P.underlying u=some (.int ki)) (hi:P.info? e=some i) :
  (Builtin.append_ tys ty #[.slice none 0 0,.int kv 0]).run P w = .ok (.slice none 0 0) w:=by
 have wl:IntKind.i64.wrap 0=0:=by decide
 simp[Builtin.append_,h0,h1,run_underlying ht,run_underlying hu,sizeOf,typeInfo,hi,asInt,asIntOf,wl]
theorem EW{tys:Array TypeId}{ty t u e:TypeId}{ki kv:IntKind}{i:TypeInfo}{z:Value}{a:Option Addr}{sLen sCap n:Nat}{oc:List Value}(w:World)(h0:tys[0]?=some t)(h1:tys[1]?=some u)
  (ht:P.underlying t=some (.slice e)) (hu:P.underlying u=some (.int ki)) (hi:P.info? e=some i) (hz:i.zero=some z) (hcells:z.cells.size=i.size)
  (hfo:(Builtin.firstCells i.size sLen (.slice a sLen sCap)).run P w.drew = .ok oc.toArray w.drew)
  (hg:sCap<sLen+n) (hm:sLen+n<=1073741824) (hb:i.bytes<=65536) :
  (Builtin.append_ tys ty #[.slice a sLen sCap,.int kv (n:Int)]).run P w = .ok (.slice (some ⟨w.heap.size,0,none⟩) (sLen+n) (grownCap w (sLen+n) sCap e))
   (w.drew.alloc (.cells (oc++(Builtin.zeroCells z.cells n).toList++(Builtin.zeroCells z.cells (grownCap w (sLen+n) sCap e-(sLen+n))).toList).toArray e)):=by
 have hn:¬(sLen+n<=sCap):=by omega
 have wl:IntKind.i64.wrap (n:Int)=n:=by rw[IntKind.wrap_i64];omega
 have n1:¬(n:Int)<0:=by omega
 have n2:¬(281474976710656<(n:Int)*(i.bytes:Int)):=by
  have:n*i.bytes<=1073741824*65536:=Nat.mul_le_mul (by omega) hb;have h3:((n*i.bytes:Nat):Int)<=281474976710656:=by omega
  rw[Int.natCast_mul]at h3;omega
 have h63':¬(9223372036854775807<((sLen:Int)+(n:Int))):=by omega
 have hfit:Builtin.nextslicecap (sLen+n) sCap*i.bytes<=281474976710656:=growslice_fits hg (by
  have:(sLen+n)*i.bytes<=1073741824*65536:=Nat.mul_le_mul hm hb;omega)
 have h48':¬(281474976710656<Builtin.nextslicecap (sLen+n) sCap*i.bytes):=by omega
 by_cases hn0:n*i.size=0;have he:Builtin.zeroCells z.cells n = #[]:=by apply Array.eq_empty_of_size_eq_zero;rw[size_zeroCells,hcells];exact hn0
 rw[he];simp[Builtin.append_,h0,h1,run_underlying ht,run_underlying hu,sizeOf,typeInfo,zeroValue,hi,hz,asInt,asIntOf,wl,n1,n2,hn,h63',h48',Question.forced,hfo,newRow,grownCap,hn0];congr 2;apply Array.ext';simp
 ·simp[Builtin.append_,h0,h1,run_underlying ht,run_underlying hu,sizeOf,typeInfo,zeroValue,hi,hz,asInt,asIntOf,wl,n1,n2,hn,h63',h48',Question.forced,hfo,newRow,grownCap,hn0]
  try (congr 2;apply Array.ext';simp[List.append_assoc])
end
section
variable{P:Program}{num:Nm}{Fb:Nat->Prop}{B0:Nat}{ρ : Rho}{w:World}{O:Nat->Prop}{h:Hp}{ρv:Operand->Value}{o:Oper}
theorem BI(H:HpR num Fb B0 ρ w O h){k0 esz:Nat}{ag:Bool}{bytes:Nat}{x:AV}{src:List AV}{n:Nat}{rd:List Nat}{v:AV}{eff:Eff}{run:Result Value}{x':Value}{cc:List Value}{e:TypeId}{z:Array Value}
  (hx:Rv num ρ w (λb=>Fb b\/O b) x x') (h1:lG h k0 esz ag bytes x src n rd=some (v,eff)) (hall:aJ (Rv num ρ w (λb=>Fb b\/O b)) src cc) (hlen:src.length=n*esz) (hone:bC src=true)
  (hzsz:z.size=esz)
  (hnil:n=0->x' = .slice none 0 0->run = .ok (.slice none 0 0) w)
  (hzer:∀a sLen sCap,n=0->x' = .slice (some a) sLen sCap->sLen<=sCap->run = .ok (.slice (some a) sLen sCap) w)
  (hroom:∀b off sLen sCap,x' = .slice (some ⟨b,off,none⟩) sLen sCap->sLen+n<=sCap->(storeCells ⟨b,off+sLen*esz,none⟩ cc).run P w = .ok () (w.setCells b (off+sLen*esz) cc) ->
   run = .ok (.slice (some ⟨b,off,none⟩) (sLen+n) sCap) (w.setCells b (off+sLen*esz) cc))
  (hgrow:∀a sLen sCap oc,x' = .slice a sLen sCap->sCap<sLen+n->sLen+n<=1073741824->bytes<=65536->(∀i:TypeInfo,i.size=esz->(Builtin.firstCells i.size sLen (.slice a sLen sCap)).run P w.drew = .ok oc.toArray w.drew) ->
   run = .ok (.slice (some ⟨w.heap.size,0,none⟩) (sLen+n) (grownCap w (sLen+n) sCap e)) (w.drew.alloc (.cells (oc++cc++(Builtin.zeroCells z (grownCap w (sLen+n) sCap e-(sLen+n))).toList).toArray e))) :
  ∃cv w' ρ' O',run = .ok cv w'/\Evo ρ w O ρ' w' O'/\HpR num Fb B0 ρ' w' O' (eff.app h)/\Rv num ρ' w' (λb=>Fb b\/O' b) v cv:=by
 unfold lG at h1;split at h1;rename_i nl es cl;split at h1;rename_i hn;subst hn;cases h1;have hcc:cc=[]:=by have h2:=hall.length;simp at hlen;rw[hlen]at h2;exact gU (by simpa using h2.symm)
 subst hcc;cases nl with
 |true=>obtain⟨rfl,hx'⟩:=hx.of_nsl;exact⟨_,w,ρ,O,hnil rfl hx',Evo.refl _ _ _,H,.nsl _⟩
 |false=>have hx2:=hx;obtain⟨b,off,cap,sz,m,sp,hx',hsp,hc,_⟩:=hx.of_sl;have:=hzer _ es.length cap rfl hx' (by omega);refine⟨x',w,ρ,O,by rw[this,hx'],Evo.refl _ _ _,H,hx2⟩
 rename_i hn;split at h1
 case isFalse=>cases h1
 rename_i hc;simp only[aD,cK]at hc;obtain⟨⟨hcl,hm⟩,hb⟩:=hc;split at h1
 case h_2=>cases h1
 rename_i ec hec;cases h1;obtain⟨rfl,hfits⟩:=l6 hec;have hfl:(eO es).length=es.length*esz:=iQ (λi u hu=>(AV.fits_cells (hfits i u hu).1).1);have hsrc:bM h esz ag (.sl nl es cl)=some (eO es,es.length,[]):=by simp[bM,hec]
 obtain⟨oc,hoall,holen,hoone,hocase⟩:=qN H hx hsrc;have hcap:∃a cap,x' = .slice a es.length cap/\cap<es.length+n/\(∀i:TypeInfo,i.size=esz->(Builtin.firstCells i.size es.length (.slice a es.length cap)).run P w.drew = .ok oc.toArray w.drew):=by
  rcases hocase with ⟨⟨p,cap,hx'⟩,h0⟩|⟨b,off,cap,hx',hcell⟩|⟨s,hx',_⟩
  have:oc=[]:=by have h2:=hoall.length;rw[holen,h0]at h2;exact gU (by simpa using h2.symm)
  subst this;rw[h0];refine⟨p,cap,hx',?_,λi hi=>?_⟩;cases nl with
  |true=>obtain⟨_,q⟩:=hx.of_nsl;rw[hx']at q;cases q;omega
  |false=>
   obtain⟨_,_,cap',_,_,_,q,_,_,hcl',_⟩:=hx.of_sl;have:=hcl' (by simpa using hcl);rw[hx',h0]at q;injection q with _ _ q3
   omega
  cases p with
  |none=>rw[run_firstCells_none]
  |some a=>exact run_firstCells_some w.drew i.size 0 a 0 cap [] (by simp) (by simp)
  refine⟨some ⟨b,off,none⟩,cap,hx',?_,λi hi=>?_⟩;cases nl with
  |true=>obtain⟨_,q⟩:=hx.of_nsl;rw[hx']at q;cases q
  |false=>obtain⟨_,_,cap',_,_,_,q,_,_,hcl',_⟩:=hx.of_sl;rw[hx']at q;cases q;have:=hcl' (by simpa using hcl);omega
  exact run_firstCells_some w.drew i.size es.length _ _ _ oc (by have:=hoall.length;rw[hi];omega) (λj u hj=>by rw[fN];exact hcell j u hj);cases nl with
  |true=>obtain⟨_,q⟩:=hx.of_nsl;rw[hx']at q;cases q
  |false=>obtain⟨_,_,cap',_,_,_,q,_⟩:=hx.of_sl;rw[hx']at q;cases q
 obtain⟨a,cap,hx',hlt,hfo⟩:=hcap;have hrun:=hgrow a es.length cap oc hx' hlt hm hb hfo;have hcat:aJ (Rv num ρ w (λb=>Fb b\/O b)) (eO es++src) (oc++cc):=hoall.append hall;have hcl2:(eO es++src).length=(es.length+n)*esz:=by rw[cO,hfl,hlen,Nat.add_mul]
 have hge:=qA w (es.length+n) cap e;generalize hG:grownCap w (es.length+n) cap e=G at *;have hsize:(oc++cc++(Builtin.zeroCells z (G-(es.length+n))).toList).toArray.size=G*esz:=by
  have h2:=hcat.length;rw[hcl2]at h2;have:(Builtin.zeroCells z (G-(es.length+n))).size=(G-(es.length+n))*esz:=by rw[size_zeroCells,hzsz]
  simp only[List.size_toArray,cO,Array.length_toList]at h2 ⊢;rw[this,<-h2,<-Nat.add_mul];congr 1;omega
 obtain⟨ev,H'⟩:=H.new (k:=k0) (cs:=eO es++src) (esz:=esz) (ag:=ag) (ti:=false) (c:=(oc++cc++(Builtin.zeroCells z (G-(es.length+n))).toList).toArray) (T:=e) (G*esz) (hX w _) (by omega)
  (by rw[hcl2];exact Nat.mul_le_mul_right _ hge) (λi y hy=>by
   have hi:i<(oc++cc).length:=by have h2:=hcat.length;rcases Nat.lt_or_ge i (eO es++src).length with q|q;omega;simp[cY q]at hy
   refine⟨(oc++cc)[i],?_,hcat.get i y _ hy (by simp[hi])⟩;rw[List.getElem?_toArray,List.getElem?_append_left hi,cZ hi])
 refine⟨_,_,_,_,hrun,ev,H',?_⟩;exact .rf _ _ _ _ _ _ _ (Rho.set_same _ _ _ _) (Nat.le_refl _) hge (λq=>by cases q) (by simp);rename_i k e' off len cap;split at h1
 case h_2=>cases h1
 rename_i e'' cs esz' ag' ti fz hgk;split at h1
 case isFalse=>cases h1
 rename_i hc;obtain⟨rfl,rfl,rfl,hle⟩:=hc;obtain⟨cap',L,hx',hL,hlc,hcc',htt,hrm⟩:=hx.of_rf;obtain⟨L0,c,T,q1,q2,q3,q4,q5,q6,q7,q8,q9,q10⟩:=H.blk _ _ _ _ _ _ _ hgk;rw[hL]at q1;cases q1;rw[q3]at hrm;have hclen:cc.length=n*esz':=by have:=hall.length;omega
 have honec:∀u∈cc,u.oneCell'=true:=by
  intro u hu;obtain⟨j,hj⟩:=List.getElem?_of_mem hu;have hjl:j<src.length:=by have:=(cF.1 hj).1;have:=hall.length;omega
  exact(hall.get j src[j] u (by simp[hjl]) hj).one_cell (mP hone j _ (by simp[hjl]))
 have inplace:len+n<=cap'->fz=false->∃c',run = .ok (.slice (some ⟨L.b,L.base+off,none⟩) (len+n) cap') (w.setCells L.b (L.base+off+len*esz') cc) /\
   fH w (w.setCells L.b (L.base+off+len*esz') cc) L.b (.cells c' T (0,0))/\c'.size=c.size /\
   ∀i,c'[i]?=if L.base+off+len*esz'<=i/\i<L.base+off+len*esz'+cc.length then cc[i-(L.base+off+len*esz')]? else c[i]?:=by
  intro hle2 _;have hmul:(len+n)*esz'<=cap'*esz':=Nat.mul_le_mul_right _ hle2;rw[Nat.add_mul]at hmul;have hfit:L.base+off+len*esz'+cc.length<=c.size:=by omega
  have hst:=run_storeCells_cells (P:=P) L.b (L.base+off+len*esz') cc 0 w (by
   intro j hj;have:L.base+off+len*esz'+j<c.size:=by omega
   simp[World.cell?,q4,this]) (by intro j hj;simp[World.frozen?,q4]) honec
  simp only[Nat.add_zero]at hst;obtain⟨c',t1,t2,t3⟩:=kZ L.b T cc (L.base+off+len*esz') w c q4 hfit;exact⟨c',hroom _ _ _ _ hx' hle2 hst,t1,t2,t3⟩
 have grow:cap' < len+n->len+n<=1073741824->bytes<=65536->∃oc G,len+n<=G/\run = .ok (.slice (some ⟨w.heap.size,0,none⟩) (len+n) G) (w.drew.alloc (.cells (oc++cc++(Builtin.zeroCells z (G-(len+n))).toList).toArray e)) /\
   aJ (Rv num ρ w (λb=>Fb b\/O b)) ((cs.drop off).take (len*esz')++src) (oc++cc)/\(oc++cc++(Builtin.zeroCells z (G-(len+n))).toList).toArray.size=G*esz':=by
  intro hlt hm hb;have holen:((cs.drop off).take (len*esz')).length=len*esz':=by simp;omega
  have hoall:aJ (Rv num ρ w (λb=>Fb b\/O b)) ((cs.drop off).take (len*esz')) ((List.range (len*esz')).map λi=>c.getD (L.base+off+i) undef):=by
   refine aJ.of_get (by simp;omega) ?_;intro i x y hx' hy';rw[List.getElem?_take]at hx';split at hx'
   case isFalse=>cases hx'
   rename_i hi;rw[List.getElem?_drop]at hx';simp[hi]at hy';subst hy';obtain⟨y,hy,hr⟩:=q7 _ _ hx';rw[<-Nat.add_assoc]at hy;simp[hy];exact hr
  have hfo:∀i:TypeInfo,i.size=esz'->(Builtin.firstCells i.size len (.slice (some ⟨L.b,L.base+off,none⟩) len cap')).run P w.drew = .ok ((List.range (len*esz')).map λi=>c.getD (L.base+off+i) undef).toArray w.drew:=by
   intro i hi;refine run_firstCells_some w.drew i.size len _ _ _ _ (by simp[hi]) (λj u hj=>?_);rw[fN];have hji:j<len*esz':=by have:=(cF.1 hj).1;simpa using this
   simp[hji]at hj;have hlt:L.base+off+j<c.size:=by omega
   have hh:w.drew.heap[L.b]?=some (.cells c T (0,0)):=q4;simp only[World.cell?,hh,Option.isSome_none,Bool.false_eq_true,if_false];simp[hlt];simpa[hlt] using hj
  have hrun:=hgrow _ len cap' _ hx' hlt hm hb hfo;have hcat:=hoall.append hall;have hge:=qA w (len+n) cap' e;refine⟨_,_,hge,hrun,hcat,?_⟩;generalize hG:grownCap w (len+n) cap' e=G at *;have:(Builtin.zeroCells z (G-(len+n))).size=(G-(len+n))*esz':=by rw[size_zeroCells,hzsz]
  simp only[List.size_toArray,cO,Array.length_toList,cP,List.length_range];rw[this,hclen,<-Nat.add_mul,<-Nat.add_mul];congr 1;omega
 have freshNew:∀(h':Hp)(H0:HpR num Fb B0 ρ w O h')(oc:List Value)(G:Nat),len+n<=G->aJ (Rv num ρ w (λb=>Fb b\/O b)) ((cs.drop off).take (len*esz')++src) (oc++cc) ->
   (oc++cc++(Builtin.zeroCells z (G-(len+n))).toList).toArray.size=G*esz' ->
   ∃ ρ' O',Evo ρ w O ρ' (w.drew.alloc (.cells (oc++cc++(Builtin.zeroCells z (G-(len+n))).toList).toArray e)) O' /\
    HpR num Fb B0 ρ' (w.drew.alloc (.cells (oc++cc++(Builtin.zeroCells z (G-(len+n))).toList).toArray e)) O' (h'.put k0 (h'.next k0) (.blk ((cs.drop off).take (len*esz')++src) esz' ag' false false)) /\
    Rv num ρ' (w.drew.alloc (.cells (oc++cc++(Builtin.zeroCells z (G-(len+n))).toList).toArray e)) (λb=>Fb b\/O' b) (.rf k0 (h'.next k0) 0 (len+n) (len+n)) (.slice (some ⟨w.heap.size,0,none⟩) (len+n) G):=by
  intro h' H0 oc G hge hcat hsize;have hcl2:((cs.drop off).take (len*esz')++src).length=(len+n)*esz':=by
   rw[cO,hlen,Nat.add_mul];have:((cs.drop off).take (len*esz')).length=len*esz':=by simp;omega
   omega
  obtain⟨ev,H'⟩:=H0.new (k:=k0) (cs:=(cs.drop off).take (len*esz')++src) (esz:=esz') (ag:=ag') (ti:=false) (c:=(oc++cc++(Builtin.zeroCells z (G-(len+n))).toList).toArray) (T:=e) (G*esz') (hX w _) (by omega)
   (by rw[hcl2];exact Nat.mul_le_mul_right _ hge) (λi y hy=>by
    have hi:i<(oc++cc).length:=by have h2:=hcat.length;rcases Nat.lt_or_ge i ((cs.drop off).take (len*esz')++src).length with q|q;omega;simp only[cY q]at hy;cases hy
    refine⟨(oc++cc)[i],?_,hcat.get i y _ hy (by simp[hi])⟩;rw[List.getElem?_toArray,List.getElem?_append_left hi,cZ hi])
  exact⟨_,_,ev,H',.rf _ _ _ _ _ _ _ (Rho.set_same _ _ _ _) (Nat.le_refl _) hge (λq=>by cases q) (by simp)⟩
 split at h1;rename_i hn;subst hn;cases h1;have hcc0:cc=[]:=gU (by simpa using hclen);subst hcc0;have:=hroom _ _ _ _ hx' (by omega) rfl;exact⟨x',w,ρ,O,by rw[this,hx'];rfl,Evo.refl _ _ _,H,hx⟩;rename_i hn;split at h1;rename_i hle2;split at h1;cases h1;rename_i hfz;cases h1;have hfz':fz=false:=by simpa using hfz
 subst hfz';obtain⟨c',hrun,ht,hs,hgc⟩:=inplace (by omega) rfl;have hmul:(len+n)*esz'<=cap'*esz':=Nat.mul_le_mul_right _ (by omega);rw[Nat.add_mul]at hmul
 obtain⟨ev,H'⟩:=H.write hgk hL ht (cs':=eF cs (off+len*esz') src) (by omega) (by rw[jA _ _ _ (by omega)];omega) (by
  intro i x hx;rw[mK _ _ _ (by omega)]at hx;rw[hgc];by_cases a1:i<off+len*esz';rw[if_pos a1]at hx;obtain⟨y',hy',hr'⟩:=q7 i x hx;rw[if_neg (by omega)];exact⟨y',hy',hr'⟩;rw[if_neg a1]at hx;by_cases a2:i<off+len*esz'+src.length;rw[if_pos a2]at hx;rw[if_pos (by omega)];have hlt:i-(off+len*esz')<cc.length:=by omega
  refine⟨cc[i-(off+len*esz')],?_,hall.get _ _ _ hx (by simp[hlt])⟩;rw[show L.base+i-(L.base+off+len*esz')=i-(off+len*esz') by omega];simp[hlt];rw[if_neg a2]at hx;obtain⟨y',hy',hr'⟩:=q7 i x hx;rw[if_neg (by omega)];exact⟨y',hy',hr'⟩)
 exact⟨_,_,_,_,hrun,ev,H',.rf _ _ _ _ _ _ L hL hle2 hcc' htt (by rw[q3];exact hrm)⟩;rename_i hgt;have move:fz=false->len+n<=cap'->∀(h':Hp),(h'=if k=k0 then h else h.put k e'' .dead)->∃cv w' ρ' O',run = .ok cv w'/\Evo ρ w O ρ' w' O' /\
   HpR num Fb B0 ρ' w' O' (h'.put k0 (h.next k0) (.blk ((cs.drop off).take (len*esz')++src) esz' ag' false false))/\Rv num ρ' w' (λb=>Fb b\/O' b) (.rf k0 (h.next k0) 0 (len+n) (len+n)) cv:=by
  intro hfz hle2 h' hh';subst hfz;obtain⟨c',hrun,ht,hs,hgc⟩:=inplace hle2 rfl;have hmul:(len+n)*esz'<=cap'*esz':=Nat.mul_le_mul_right _ hle2;rw[Nat.add_mul]at hmul;have hcl2:((cs.drop off).take (len*esz')++src).length=len*esz'+n*esz':=by
   rw[cO,hlen];have:((cs.drop off).take (len*esz')).length=len*esz':=by simp;omega
   omega
  obtain⟨ev,H'⟩:=H.move (k0:=k0) (off:=off) (cs':=(cs.drop off).take (len*esz')++src) (ag':=ag') hgk hL ht (by omega) (by omega) (by omega) (by
   intro i x hx;rw[hgc];rw[List.getElem?_append]at hx;have htl:((cs.drop off).take (len*esz')).length=len*esz':=by simp;omega
   rw[htl]at hx;split at hx;rename_i hi;rw[List.getElem?_take,if_pos hi,List.getElem?_drop]at hx;obtain⟨y',hy',hr'⟩:=q7 _ x hx;rw[if_neg (by omega)];rw[<-Nat.add_assoc]at hy';exact⟨y',hy',hr'⟩;rename_i hi;have hil:i-len*esz' < src.length:=by rcases Nat.lt_or_ge (i-len*esz') src.length with q|q;exact q;rw[cY q]at hx;cases hx
   rw[if_pos (by omega)];have hlt:i-len*esz' < cc.length:=by omega
   refine⟨cc[i-len*esz'],?_,hall.get _ _ _ hx (by simp[hlt])⟩;rw[show L.base+off+i-(L.base+off+len*esz')=i-len*esz' by omega];simp[hlt]) h' hh' (h.next k0) rfl
  refine⟨_,_,_,_,hrun,ev,H',?_⟩;have:=Rv.rf (num:=num) (w:=w.setCells L.b (L.base+off+len*esz') cc) (F:=λb=>Fb b\/O b) k0 (h.next k0) 0 (len+n) (len+n) cap' _ (Rho.set_same ρ k0 (h.next k0) ⟨L.b,L.base+off,L.room-off,false,esz',λh=>nomatch h⟩) (Nat.le_refl _) hle2 (λq=>by cases q) (by simp;omega);simpa using this
 split at h1;rename_i hc;simp only[aD,cK,fY,beq_eq_false_iff_ne]at hc;obtain⟨⟨hm,hb⟩,hkk⟩:=hc;split at h1;rename_i hti;cases h1;have hcap:=htt (by rw[q2];exact hti);obtain⟨oc,G,hge,hrun,hcat,hsize⟩:=grow (by omega) hm hb;obtain⟨ρ',O',ev,H',hr⟩:=freshNew h H oc G hge hcat hsize;exact⟨_,_,ρ',O',hrun,ev,H',hr⟩;split at h1;cases h1;rename_i hti hfz;cases h1;have hfz':fz=false:=by simpa using hfz
 have hnk:(h.put k e'' .dead).next k0=h.next k0:=by simp[Hp.next,aB,hkk]
 by_cases hle2:len+n<=cap';obtain⟨cv,w',ρ',O',r1,r2,r3,r4⟩:=move hfz' hle2 _ rfl;rw[if_neg hkk]at r3;exact⟨cv,w',ρ',O',r1,r2,r3,r4⟩;obtain⟨oc,G,hge,hrun,hcat,hsize⟩:=grow (by omega) hm hb;obtain⟨ρ',O',ev,H',hr⟩:=freshNew (h.put k e'' .dead) (H.kill hgk) oc G hge hcat hsize;rw[hnk]at H' hr;exact⟨_,_,ρ',O',hrun,ev,H',hr⟩;split at h1;rename_i hnc hc;simp only[aD,cK,fY]at hc;obtain⟨⟨hm,hb⟩,hfz⟩:=hc;cases h1;have hkk:k=k0:=by rcases Nat.decEq k k0 with q|q;exfalso;apply hnc;simp[hm,hb,q];exact q
 subst hkk;have hnx:h.next k=e''+1:=by simp[Hp.next,hgk]
 by_cases hle2:len+n<=cap';obtain⟨cv,w',ρ',O',r1,r2,r3,r4⟩:=move hfz hle2 _ rfl;rw[if_pos rfl,hnx]at r3;rw[hnx]at r4;exact⟨cv,w',ρ',O',r1,r2,r3,r4⟩;obtain⟨oc,G,hge,hrun,hcat,hsize⟩:=grow (by omega) hm hb;obtain⟨ρ',O',ev,H',hr⟩:=freshNew h H oc G hge hcat hsize;rw[hnx]at H' hr;exact⟨_,_,ρ',O',hrun,ev,H',hr⟩;cases h1;cases h1
end
end
section
open Go.RowKit
section
variable{P:Program}{num:Nm}{Fb:Nat->Prop}{B0:Nat}{ρ : Rho}{w:World}{O:Nat->Prop}{h:Hp}{ρv:Operand->Value}{o:Oper}
theorem yU{esz n:Nat}{y':Value}{cc:List Value}(hcl:cc.length=n*esz)
  (hc:((∃p cap,y' = .slice p 0 cap)/\n=0)\/(∃b off cap,y' = .slice (some ⟨b,off,none⟩) n cap/\∀j v,cc[j]?=some v->w.cell? ⟨b,off+j,none⟩=some v) \/
    (∃s:List UInt8,y' = .string ⟨s.toArray⟩/\esz=1/\n=s.length/\cc=s.map λb => .int .u8 b.toNat)) (W:World) (hW:W.heap=w.heap) :
  (Builtin.lenOf y').run P W = .ok n W/\(Builtin.firstCells esz n y').run P W = .ok cc.toArray W:=by
 rcases hc with ⟨⟨p,cap,rfl⟩,rfl⟩|⟨b,off,cap,rfl,hcell⟩|⟨s,rfl,rfl,rfl,rfl⟩
 have:cc=[]:=gU (by simpa using hcl);subst this;refine⟨rfl,?_⟩;cases p with
 |none=>rw[run_firstCells_none]
 |some a=>exact run_firstCells_some W esz 0 a 0 cap [] (by simp) (by simp)
 refine⟨rfl,run_firstCells_some W esz n _ n cap cc hcl (λj u hj=>?_)⟩;rw[fN,lU (w:=w) (by rw[hW])];exact hcell j u hj;refine⟨by simp[Builtin.lenOf,ByteArray.size],?_⟩;simp only[Builtin.firstCells];have:((⟨s.toArray⟩:ByteArray).extract 0 s.length).data=s.toArray:=by rw[ByteArray.data_extract];simp
 rw[this];simp
variable(H:HpR num Fb B0 ρ w O h)
variable{k0:Nat}{l:List Operand}{vs:List AV}{v:AV}{eff:Eff}
variable(hv:aJ (Rv num ρ w (λb=>Fb b\/O b)) vs (l.map ρv))
include H hv
theorem aGg(esz:Nat)(ag:Bool)(bytes:Nat)(hf:fitK P num o (.app esz ag bytes)=some l)(h1:op1 h k0 (.app esz ag bytes) vs=some (v,eff)):eC P num Fb B0 ρ w O h ρv o v eff:=by
 simp only[fitK]at hf;split at hf
 case h_2=>cases hf
 rename_i x y tys ho;split at hf
 case h_2=>cases hf
 rename_i t u ht0 ht1;split at hf
 case h_2=>cases hf
 rename_i e hel;obtain⟨hg,rfl⟩:=aL hf;simp only[aD]at hg;obtain⟨⟨⟨hft,hfb⟩,hzs⟩,htu⟩:=hg;obtain⟨a,b,rfl,ha,hb⟩:=hv.two;obtain⟨cn,hrun⟩:=gT (P:=P) (ρv := ρv) (w:=w) ho;have hu:=gE hel;obtain⟨ie,hie,hsz,_⟩:=fitT_eq hft;have hby:ie.bytes=bytes:=by simpa[fitB,hie] using hfb
 cases hz:ie.zero with
 |none=>simp[hie,hz]at hzs
 |some z=>
 have hzsz:z.cells.size=esz:=by simpa[hie,hz,hsz] using hzs
 have hdu:∃d,P.underlying u=some d/\(d = .string\/∃e',d = .slice e'):=by simp only[Bool.or_eq_true,beq_iff_eq]at htu;rcases htu with (rfl|hs)|hs;exact⟨_,hu,.inr ⟨_,rfl⟩⟩;exact⟨_,iE hs,.inl rfl⟩;obtain⟨e',he'⟩:=Option.isSome_iff_exists.1 hs;exact⟨_,gE he',.inr ⟨_,rfl⟩⟩
 obtain⟨d,hdu,hd⟩:=hdu;simp only[op1]at h1;split at h1
 case h_2=>cases h1
 rename_i cs n rd hsrc;obtain⟨cc,hall,hlen,hone,hcase⟩:=qN H hb hsrc;have hcl:cc.length=n*esz:=by have:=hall.length;omega
 obtain⟨r1,r2⟩:=yU (P:=P) hcl hcase w rfl;obtain⟨_,r3⟩:=yU (P:=P) hcl hcase w.drew rfl;rw[<-hsz]at r2 r3;obtain⟨cv,w',ρ',O',hh,ev,H',hr⟩:=BI (P:=P) (z:=z.cells) (e:=e) (run:=(Builtin.append_ tys o.type #[ρv x,ρv y]).run P w) H ha h1 hall hlen hone hzsz
  (by
   intro hn hx;subst hn;have hcc:cc=[]:=gU (by simpa using hcl);subst hcc;rw[hx];exact EZ w ht0 ht1 hu hdu hd hie r1 r2)
  (by
   intro a sLen sCap hn hx hle;subst hn;have hcc:cc=[]:=gU (by simpa using hcl);subst hcc;rw[hx];exact EX w ht0 ht1 hu hdu hd hie r1 r2 hle)
  (by
   intro b off sLen sCap hx hle hst;rw[hx];rw[<-hsz]at hst ⊢;exact EY w ht0 ht1 hu hdu hd hie r1 r2 hle hst)
  (by
   intro a sLen sCap oc hx hlt hm hbb hfo;rw[hx];exact E0 w ht0 ht1 hu hdu hd hie hz r1 r3 (hfo ie hsz) hlt hm (by rw[hby];exact hbb))
 refine⟨.value cv,cv,w',ρ',O',?_,.inl rfl,ev,H',hr⟩;rw[hrun];simp[builtin,hh]
omit H hv in
theorem v7{F:Nat->Prop}{zero:List AV}{z:Array Value}(hz:aJ (Rv num ρ w F) zero z.toList)(n:Nat) :
  aJ (Rv num ρ w F) (List.replicate n zero).flatten (Builtin.zeroCells z n).toList:=by
 have hl:z.size=zero.length:=by simpa using hz.length.symm
 refine aJ.of_get (by simp[Builtin.zeroCells,hl]) ?_;intro i x y hx hy;have hi:i<n*zero.length:=by rcases Nat.lt_or_ge i (List.replicate n zero).flatten.length with q|q;simpa using q;simp[cY q]at hx
 have hpos:0<zero.length:=by rcases Nat.eq_zero_or_pos zero.length with q|q;simp[q]at hi;exact q
 rw[kP zero n i hi]at hx;have hm:i % zero.length<zero.length:=Nat.mod_lt _ hpos;simp[Builtin.zeroCells,hi,hl,hm]at hy;subst hy;refine hz.get (i % zero.length) x _ hx ?_;have:i % zero.length<z.size:=by omega
 simp[this]
theorem aGf(esz:Nat)(ag:Bool)(bytes:Nat)(zero:List AV)(hf:fitK P num o (.apz esz ag bytes zero)=some l)(h1:op1 h k0 (.apz esz ag bytes zero) vs=some (v,eff)):eC P num Fb B0 ρ w O h ρv o v eff:=by
 simp only[fitK]at hf;split at hf
 case h_2=>cases hf
 rename_i x y tys ho;split at hf
 case h_2=>cases hf
 rename_i t u ht0 ht1;split at hf
 case h_2=>cases hf
 rename_i e hel;obtain⟨hg,rfl⟩:=aL hf;simp only[aD]at hg;obtain⟨⟨⟨hft,hfb⟩,hfz⟩,htu⟩:=hg;obtain⟨a,b,rfl,ha,hb⟩:=hv.two;obtain⟨cn,hrun⟩:=gT (P:=P) (ρv := ρv) (w:=w) ho;have hu:=gE hel;obtain⟨ki,hint⟩:=zY htu;obtain⟨ie,z,hie,hz,hfz'⟩:=fitZ_eq hfz;obtain⟨ie',hie',hsz,_⟩:=fitT_eq hft;rw[hie]at hie';cases hie';have hby:ie.bytes=bytes:=by simpa[fitB,hie] using hfb
 simp only[op1]at h1;split at h1
 case h_2=>cases h1
 rename_i kv nn;split at h1
 case isFalse=>cases h1
 rename_i hc;obtain⟨h0,hm,hbm,hze,hone⟩:=hc;obtain⟨n,rfl⟩:=hZ h0;have hzz:aJ (Rv num ρ w (λb=>Fb b\/O b)) zero z.cells.toList:=fitL_sound hfz';have hzsz:z.cells.size=esz:=by have:=hzz.length;simp at this;omega
 have hall:=v7 hzz n;have hlen:(List.replicate n zero).flatten.length=n*esz:=by simp[hze]
 have hone':bC (List.replicate n zero).flatten=true:=by
  have:∀m:Nat,bC (List.replicate m zero).flatten=true:=by
   intro m
   induction m with
   |zero=>rfl
   |succ m ih=>
    rw[List.replicate_succ,List.flatten_cons];have happ:∀(p q:List AV),bC p=true->bC q=true->bC (p++q)=true:=by
     intro p q hp hq
     induction p with
     |nil=>exact hq
     |cons x r ih2=>simp only[bC,aD,List.cons_append]at hp ⊢;exact⟨hp.1,ih2 hp.2⟩
    exact happ _ _ hone ih
  exact this n
 have hy : ρv y = .int kv (n:Int):=by generalize ρv y=yy at hb;cases hb;rfl
 simp only[Int.ofNat_eq_natCast,Int.toNat_natCast]at h1;obtain⟨cv,w',ρ',O',hh,ev,H',hr⟩:=BI (P:=P) (z:=z.cells) (e:=e) (run:=(Builtin.append_ tys o.type #[ρv x,.int kv (n:Int)]).run P w) H ha h1 hall hlen hone' hzsz
  (by
   intro hn hx;subst hn;rw[hx];exact EU w ht0 ht1 hu hint hie)
  (by
   intro a sLen sCap hn hx hle;subst hn;rw[hx];exact ES w ht0 ht1 hu hint hie hle)
  (by
   intro b off sLen sCap hx hle hst;rw[hx];rw[<-hsz]at hst ⊢;exact ET w ht0 ht1 hu hint hie hz (by omega) (by rw[hby];exact hbm) hle (by rw[hzsz,hsz]) hst)
  (by
   intro a sLen sCap oc hx hlt hm' hbb hfo;rw[hx];exact EW w ht0 ht1 hu hint hie hz (by rw[hzsz,hsz]) (hfo ie hsz) hlt hm' (by rw[hby];exact hbb))
 refine⟨.value cv,cv,w',ρ',O',?_,.inl rfl,ev,H',hr⟩;rw[hrun];simp[builtin,hy,hh]
theorem aFY(esz:Nat)(ag:Bool)(hf:fitK P num o (.cpy esz ag)=some l)(h1:op1 h k0 (.cpy esz ag) vs=some (v,eff)):eC P num Fb B0 ρ w O h ρv o v eff:=by
 simp only[fitK]at hf;split at hf
 case h_2=>cases hf
 rename_i x y tys ho;split at hf
 case h_2=>cases hf
 rename_i t ht0;split at hf
 case h_2=>cases hf
 rename_i e hel;obtain⟨hft,rfl⟩:=aL hf;obtain⟨a,b,rfl,ha,hb⟩:=hv.two;obtain⟨cn,hrun⟩:=gT (P:=P) (ρv := ρv) (w:=w) ho;have hu:=gE hel;obtain⟨ie,hie,hsz,_⟩:=fitT_eq hft;simp only[op1]at h1;split at h1
 case h_2=>cases h1
 rename_i k e' off len cap;split at h1
 case h_2=>cases h1
 rename_i e'' cs esz' ag' ti new n rd hgk hsrc;split at h1
 case isFalse=>cases h1
 rename_i hc;obtain⟨rfl,hle⟩:=hc;cases h1;obtain⟨cc,hall,hlen,hone,hcase⟩:=qN H hb hsrc;have hcl:cc.length=n*esz:=by have:=hall.length;omega
 obtain⟨cap',L,hx,hL,hlc,hcc',htt,hrm⟩:=ha.of_rf;obtain⟨L0,c,T,q1,q2,q3,q4,q5,q6,q7,q8,q9,q10⟩:=H.blk _ _ _ _ _ _ _ hgk;rw[hL]at q1;cases q1;have hmul:min n len*esz<=n*esz:=Nat.mul_le_mul_right _ (Nat.min_le_left _ _);have hmul2:min n len*esz<=len*esz:=Nat.mul_le_mul_right _ (Nat.min_le_right _ _)
 have hall':aJ (Rv num ρ w (λb=>Fb b\/O b)) (new.take (min n len*esz)) (cc.take (min n len*esz)):=by refine aJ.of_get (by simp;omega) ?_;intro i x y hx hy;rw[List.getElem?_take]at hx hy;split at hx;rename_i hi;rw[if_pos hi]at hy;exact hall.get i x y hx hy;cases hx
 have htl:(cc.take (min n len*esz)).length=min n len*esz:=by simp;omega
 have hnl:(new.take (min n len*esz)).length=min n len*esz:=by simp;omega
 have hlenOf:(Builtin.lenOf (ρv y)).run P w = .ok n w:=(yU (P:=P) hcl hcase w rfl).1;have hfirst:(Builtin.firstCells esz (min n len) (ρv y)).run P w = .ok (cc.take (min n len*esz)).toArray w:=by
  rcases hcase with ⟨⟨p,cap9,hy⟩,rfl⟩|⟨b',off',cap'',hy,hcell⟩|⟨s,hy,rfl,rfl,rfl⟩
  have:cc=[]:=gU (by simpa using hcl);subst this;rw[hy];cases p with
  |none=>rw[run_firstCells_none];simp
  |some a=>simpa using run_firstCells_some w esz 0 a 0 cap9 [] (by simp) (by simp)
  rw[hy];refine run_firstCells_some w esz (min n len) _ n cap'' _ htl (λj u hj=>?_);rw[fN];rw[List.getElem?_take]at hj;split at hj;exact hcell j u hj;cases hj;rw[hy];simp only[Builtin.firstCells];have:((⟨s.toArray⟩:ByteArray).extract 0 (min s.length len)).data=(s.take (min s.length len)).toArray:=by rw[ByteArray.data_extract];simp
  rw[this];simp[List.map_take]
 have honec:∀u∈cc.take (min n len*esz),u.oneCell'=true:=by
  intro u hu;obtain⟨j,hj⟩:=List.getElem?_of_mem hu;have hjl:j<new.length:=by have:=(cF.1 hj).1;rw[htl]at this;have:=hall.length;omega
  rw[List.getElem?_take]at hj;split at hj;exact(hall.get j new[j] u (by simp[hjl]) hj).one_cell (mP hone j _ (by simp[hjl]));cases hj
 have hst:=run_storeCells_cells (P:=P) L.b (L.base+off) (cc.take (min n len*esz)) 0 w (by
  intro j hj;rw[htl]at hj;have:L.base+off+j<c.size:=by omega
  simp[World.cell?,q4,this]) (by intro j hj;simp[World.frozen?,q4]) honec
 simp only[Nat.add_zero]at hst;obtain⟨c',t1,t2,t3⟩:=kZ L.b T (cc.take (min n len*esz)) (L.base+off) w c q4 (by rw[htl];omega)
 obtain⟨ev,H'⟩:=H.write hgk hL t1 (cs':=eF cs off (new.take (min n len*esz))) (by omega) (by rw[jA _ _ _ (by omega),hnl];omega) (by
  intro i x hx;rw[mK _ _ _ (by omega),hnl]at hx;rw[t3,htl];by_cases a1:i<off;rw[if_pos a1]at hx;obtain⟨y',hy',hr'⟩:=q7 i x hx;rw[if_neg (by omega)];exact⟨y',hy',hr'⟩;rw[if_neg a1]at hx;by_cases a2:i<off+min n len*esz;rw[if_pos a2]at hx;rw[if_pos (by omega)];have hlt:i-off<(cc.take (min n len*esz)).length:=by omega
  refine⟨(cc.take (min n len*esz))[i-off],?_,hall'.get _ _ _ hx (cZ hlt)⟩;rw[show L.base+i-(L.base+off)=i-off by omega];exact cZ hlt;rw[if_neg a2]at hx;obtain⟨y',hy',hr'⟩:=q7 i x hx;rw[if_neg (by omega)];exact⟨y',hy',hr'⟩)
 refine⟨.value (.int .i64 (min n len:Nat)),_,_,_,_,?_,.inl rfl,ev,H',.int _ _⟩;rw[hrun];have hmin:Nat.min n len=min n len:=rfl;simp[builtin,Builtin.copy_,ht0,run_underlying hu,hx,hlenOf,eS w hie,hsz,hmin,hfirst,hst,goInt]
theorem aFZ(esz:Nat)(zero:List AV)(hf:fitK P num o (.clr esz zero)=some l)(h1:op1 h k0 (.clr esz zero) vs=some (v,eff)):eC P num Fb B0 ρ w O h ρv o v eff:=by
 simp only[fitK]at hf;split at hf
 case h_2=>cases hf
 rename_i x tys ho;split at hf
 case h_2=>cases hf
 rename_i t ht0;split at hf
 case h_2=>cases hf
 rename_i e hel;obtain⟨hfz,rfl⟩:=aL hf;obtain⟨a,rfl,ha⟩:=hv.one;obtain⟨cn,hrun⟩:=gT (P:=P) (ρv := ρv) (w:=w) ho;have hu:=gE hel;obtain⟨ie,z,hie,hz,hfz'⟩:=fitZ_eq hfz;have htup:∀{ρ : Rho}{w:World}{F:Nat->Prop},Rv num ρ w F (.tup []) (.tuple #[]):=.tup _ _ rfl (λi x y hx=>by simp at hx);simp only[op1]at h1;split at h1;obtain⟨rfl,rfl⟩:=bH h1;have:∃p cap,ρv x = .slice p 0 cap:=by generalize ρv x=xx at ha;cases ha<;>exact⟨_,_,rfl⟩
 obtain⟨p,cap,hx⟩:=this;refine .val H (cv:=.tuple #[]) ?_ htup;rw[hrun];cases p<;>simp[builtin,Builtin.clear_,ht0,run_underlying hu,hx];rename_i k e' off len cap;split at h1
 case h_2=>cases h1
 rename_i e'' cs esz' ag' ti hgk;split at h1
 case isFalse=>cases h1
 rename_i hc;obtain⟨rfl,hle,hzl,hone⟩:=hc;cases h1;obtain⟨cap',L,hx,hL,hlc,hcc',htt,hrm⟩:=ha.of_rf;obtain⟨L0,c,T,q1,q2,q3,q4,q5,q6,q7,q8,q9,q10⟩:=H.blk _ _ _ _ _ _ _ hgk;rw[hL]at q1;cases q1;have hzz:aJ (Rv num ρ w (λb=>Fb b\/O b)) zero z.cells.toList:=fitL_sound hfz';have hzsz:z.cells.size=esz:=by have:=hzz.length;simp at this;omega
 have hall:=v7 hzz len;obtain⟨new,hnew⟩:∃new,new=(List.replicate len zero).flatten:=⟨_,rfl⟩
 obtain⟨cc,hcc⟩:∃cc,cc=(Builtin.zeroCells z.cells len).toList:=⟨_,rfl⟩
 rw[<-hnew,<-hcc]at hall;have hnl:new.length=len*esz:=by simp[hnew,hzl]
 have htl:cc.length=len*esz:=by have:=hall.length;omega
 have honez:∀n:Nat,bC (List.replicate n zero).flatten=true:=by
  intro m
  induction m with
  |zero=>rfl
  |succ m ih=>
   rw[List.replicate_succ,List.flatten_cons];have happ:∀(p q:List AV),bC p=true->bC q=true->bC (p++q)=true:=by
    intro p q hp hq
    induction p with
    |nil=>exact hq
    |cons x r ih2=>simp only[bC,aD,List.cons_append]at hp ⊢;exact⟨hp.1,ih2 hp.2⟩
   exact happ _ _ hone ih
 have hone':bC new=true:=by rw[hnew];exact honez len
 have honec:∀u∈cc,u.oneCell'=true:=by
  intro u hu;obtain⟨j,hj⟩:=List.getElem?_of_mem hu;have hjl:j<new.length:=by have:=(cF.1 hj).1;omega
  exact(hall.get j new[j] u (by simp[hjl]) hj).one_cell (mP hone' j _ (by simp[hjl]))
 have hst:=run_storeCells_cells (P:=P) L.b (L.base+off) cc 0 w (by
  intro j hj;rw[htl]at hj;have:L.base+off+j<c.size:=by omega
  simp[World.cell?,q4,this]) (by intro j hj;simp[World.frozen?,q4]) honec
 simp only[Nat.add_zero]at hst;obtain⟨c',t1,t2,t3⟩:=kZ L.b T cc (L.base+off) w c q4 (by rw[htl];omega)
 obtain⟨ev,H'⟩:=H.write hgk hL t1 (cs':=eF cs off new) (by omega) (by rw[jA _ _ _ (by omega)];omega) (by
  intro i x hx;rw[mK _ _ _ (by omega),hnl]at hx;rw[t3,htl];by_cases a1:i<off;rw[if_pos a1]at hx;obtain⟨y',hy',hr'⟩:=q7 i x hx;rw[if_neg (by omega)];exact⟨y',hy',hr'⟩;rw[if_neg a1]at hx;by_cases a2:i<off+len*esz;rw[if_pos a2]at hx;rw[if_pos (by omega)];have hlt:i-off<cc.length:=by omega
  refine⟨cc[i-off],?_,hall.get _ _ _ hx (cZ hlt)⟩;rw[show L.base+i-(L.base+off)=i-off by omega];exact cZ hlt;rw[if_neg a2]at hx;obtain⟨y',hy',hr'⟩:=q7 i x hx;rw[if_neg (by omega)];exact⟨y',hy',hr'⟩)
 rw[<-hnew];refine⟨.value (.tuple #[]),_,_,_,_,?_,.inl rfl,ev,H',htup⟩;rw[hrun];cases len with
 |zero=>have:cc=[]:=gU (by simpa using htl);subst this;simp[builtin,Builtin.clear_,ht0,run_underlying hu,hx];rfl
 |succ m=>
  have hzr:(zeroValue e).run P w = .ok z w:=by simp[zeroValue,typeInfo,hie,hz,Sem.run,Result.andThen]
  subst hcc;simp[builtin,Builtin.clear_,ht0,run_underlying hu,hx,hzr,hst]
 cases h1
end
end
end Go.Tev
