import Derived.Test.YtdideofckfhnfaaGreatDoorPAR
import Derived.Sort.KeysCollected
import Derived.WideShapes
import Derived.KernelRfl
import Derived.Shelf.Strings.OnBuilder
import Derived.Shelf.Strings.Cut
import Derived.Shelf.LaysM
import Derived.Shelf.SlIter.Nil
import Derived.Shelf.SortM.Plain
import Derived.Shelf.SortM.SortNone
import Derived.Test.YtdideofckfhnfaaGreatDoorProg
import Derived.Shelf.Strconv.Itoa3
import Derived.Shelf.LaysC
import Derived.Shelf.Strconv.AtoiAll
import Derived.Shelf.Sort.Plain
import Derived.Shelf.Slices.CompactI
import Derived.Shelf.Slices.In.SortNone
import Derived.Ground.Names2Prog
import Derived.Test.YtdideofckfhnfaaGreatDoorPAN
import Derived.Lib.AppendIntMem
set_option linter.all false
namespace Go.Tev
section
open Go.RowKit Go.Sort Go.MapKept Go.Proofs
def leS:List UInt8->List UInt8->Bool
 |[],_=>true
 |_::_,[]=>false
 |a::r,b::s=>bif a.toNat.blt b.toNat then true else bif b.toNat.blt a.toNat then false else leS r s
theorem A6:∀a b:List UInt8,leS a b=decide (a<=b)
 |[],b=>by simp[leS]
 |a::r,[]=>by simp[leS]
 |a::r,b::s=>by
  have hlt:∀x y:UInt8,x.toNat.blt y.toNat=decide (x<y):=λx y=>by rw[Bool.eq_iff_iff,Nat.blt_eq,cL];rfl
  rw[leS,A6 r s,hlt,hlt];by_cases h1:a<b;simp[h1,List.cons_le_cons_iff];by_cases h2:b<a;have h3:a≠b:=λe=>by subst e;exact h1 h2
  simp[h1,h2,h3,List.cons_le_cons_iff];have h3:a=b:=by have e1:¬a.toNat<b.toNat:=h1;have e2:¬b.toNat<a.toNat:=h2;exact UInt8.toNat_inj.1 (by omega)
  subst h3;simp[h1,List.cons_le_cons_iff]
def BE(x:List UInt8):List (List UInt8)->List (List UInt8)
 |[]=>[x]
 |y::r=>bif leS x y then x::y::r else y::BE x r
def sortS:List (List UInt8)->List (List UInt8)
 |[]=>[]
 |x::r=>BE x (sortS r)
theorem oS(x:List UInt8):∀l,(BE x l).Perm (x::l)
 |[]=>List.Perm.refl _
 |y::r=>by rw[BE];cases leS x y;exact((oS x r).cons y).trans (List.Perm.swap x y r);exact List.Perm.refl _
theorem rC:∀l,(sortS l).Perm l
 |[]=>List.Perm.refl _
 |x::r=>(oS x _).trans ((rC r).cons x)
theorem pT(x:List UInt8):∀l:List (List UInt8),l.Pairwise (λa b=>a<=b)->(BE x l).Pairwise λa b=>a<=b
 |[],_=>by simp[BE]
 |y::r,h=>by rw[List.pairwise_cons]at h;rw[BE];cases hd:leS x y;rw[A6]at hd;have hxy:=cH hd;simp only[cond_false,List.pairwise_cons];refine⟨?_,pT x r h.2⟩;intro a ha;rcases List.mem_cons.1 ((oS x r).subset ha) with rfl|ha;exact(List.le_total y a).resolve_right hxy;exact h.1 a ha;rw[A6]at hd;have hxy:=aQ hd;simp only[cond_true,List.pairwise_cons];refine⟨?_,h.1,h.2⟩;intro a ha;rcases List.mem_cons.1 ha with rfl|ha;exact hxy;exact List.le_trans hxy (h.1 a ha)
theorem nG:∀l:List (List UInt8),(sortS l).Pairwise λa b=>a<=b
 |[]=>List.Pairwise.nil
 |x::r=>pT x _ (nG r)
theorem GG(l:List (List UInt8)):sortS l=l.mergeSort leB:=by
 have tr:∀a b c:List UInt8,leB a b=true->leB b c=true->leB a c=true:=λa b c h1 h2=>by simp only[leB,cL]at *;exact List.le_trans h1 h2
 have to:∀a b:List UInt8,(leB a b||leB b a)=true:=λa b=>by simp only[leB,Bool.or_eq_true,cL];exact List.le_total a b
 refine List.Perm.eq_of_pairwise (le:=λa b=>leB a b=true) (λa b _ _ h1 h2=>?_) ?_ (List.pairwise_mergeSort tr to l) ((rC l).trans (List.mergeSort_perm l leB).symm);simp only[leB,cL]at h1 h2;exact List.le_antisymm h1 h2;exact(nG l).imp λh=>by simp only[leB,cL];exact h
def DK:List (AV×AV)->Option (List (List UInt8))
 |[]=>some []
 |(.str s,_)::r=>(DK r).map (s :: ·)
 |_=>none
def DV:List (List UInt8)->Bool
 |[]=>true
 |x::r=>r.all (λy => !eqS x y)&&DV r
def DW:List Nat->Bool
 |[]=>true
 |x::r=>r.all (λy => !(x==y))&&DW r
theorem pX:∀{l:List (List UInt8)},DV l=true->l.Nodup
 |[],_=>by simp
 |x::r,h=>by simp only[DV,aD,gD,gS,oY,oF]at h;rw[List.nodup_cons];exact⟨λhm=>h.1 x hm rfl,pX h.2⟩
theorem pY:∀{l:List Nat},DW l=true->l.Nodup
 |[],_=>by simp
 |x::r,h=>by simp only[DW,aD,gD,gS,beq_eq_false_iff_ne]at h;rw[List.nodup_cons];exact⟨λhm=>h.1 x hm rfl,pY h.2⟩
def okK(l:List (List UInt8))(bs:List Nat)(ck:Nat):Bool:=DV l&&DW bs&&bs.all (λb=>b.blt ck)&&l.length.ble 1000&&l.all λs=>s.length.ble 1000
def nS(G:Nat)(args:List AV)(_:Nat)(h:Hp):Option (AV×Hp):=
 match args with
 |[.fn g [.pt kp ep 0]]=>
  if g=G then
   match h.get kp with
   |some (e1,.blk [.mp km em] _ _ true _)=>
    if e1=ep then
     match h.get km with
     |some (e2,.mpo es bs ck)=>
      if e2=em then
       match DK es with
       |some l=>bif okK l bs ck then some (.sl l.isEmpty ((sortS l).map .str) false,h) else none
       |none=>none
      else none
     |_=>none
    else none
   |_=>none
  else none
 |_=>none
theorem uT:∀{es:List (AV×AV)}{l:List (List UInt8)},DK es=some l->l.length=es.length/\∀(i:Nat)(x:AV×AV),es[i]?=some x->∃s,x.1 = .str s/\l[i]?=some s
 |[],l,h=>by cases h;exact⟨rfl,λi x hx=>by simp at hx⟩
 |(k,v)::r,l,h=>by
  unfold DK at h;split at h;rename_i heq;cases heq;rename_i s u r' heq;cases heq;simp only[gC]at h;obtain⟨l',h1,rfl⟩:=h;obtain⟨h2,h3⟩:=uT h1;refine⟨by simp[h2],λi x hx=>?_⟩;cases i with
  |zero=>simp at hx;subst hx;exact⟨s,rfl,rfl⟩
  |succ i=>exact h3 i x (by simpa using hx)
  cases h
section
variable{P:Program}{num:Nm}{gl:Nat->Option AV}{gnum:Nat->Nat}{Fb:Nat->Prop}{B0:Nat}{ρ : Rho}{w w':World}{O:Nat->Prop}{h:Hp}
theorem GF(F G:Nat)(T:TypeId)(hfn:oE P (num F))
  (hc:∀(Bm b:Nat)(es:Array MapEntry)(clock:Nat)(l:List (List UInt8))(w:World),w.cell? ⟨Bm,0,none⟩=some (.map (some b))->Bm<w.heap.size->w.heap[b]?=some (.map es clock)->Stamped es clock ->
   es.toList.map (·.key)=l.map Go.Proofs.encStr->l.length<=1000->(∀s∈l,s.length<=1000) ->
   Calls P (num F) #[.func (.func (num G)) #[] #[.pointer (some ⟨Bm,0,none⟩)]] w λe w'=>∃(v:Value)(ss:List (List UInt8)),e = .returned v/\ss.Perm l /\
    w'.ownsRow w.heap.size T 1 v ss.length ((ss.mergeSort leB).map Go.Proofs.encStr)/\(v = .slice none 0 0↔ss=[])/\RowKit.Below w.heap.size w w') :
  cW P num gl gnum ⟨λf' avs kb h=>if f'=F then nS G avs kb h else none,λ_ _ _ _=>none⟩:=by
 intro f avs kb h r h' hr;dsimp only at hr;split at hr
 case isFalse=>cases hr
 rename_i hf;subst hf;refine⟨hfn,?_⟩;intro Fb B0 ρ O w vs H hG hv;unfold nS at hr;split at hr
 case h_2=>cases hr
 rename_i g kp ep;split at hr
 case isFalse=>cases hr
 rename_i hg0;subst hg0;split at hr
 case h_2=>cases hr
 rename_i e1 km em esz ag fz hkp;split at hr
 case isFalse=>cases hr
 rename_i he1;subst he1;split at hr
 case h_2=>cases hr
 rename_i e2 es bs ck hkm;split at hr
 case isFalse=>cases hr
 rename_i he2;subst he2;split at hr
 case h_2=>cases hr
 rename_i l hl;cases hok:okK l bs ck with
 |false=>rw[hok]at hr;cases hr
 |true=>
 rw[hok]at hr;cases hr;simp only[okK,aD,gD,Nat.blt_eq,Nat.ble_eq]at hok;obtain⟨⟨⟨⟨k1,k2⟩,k3⟩,k4⟩,k5⟩:=hok
 obtain⟨a,rfl,ha⟩:∃a,vs=[a]/\Rv num ρ w (λb=>Fb b\/O b) (.fn g [.pt kp e1 0]) a:=by
  cases hv with
  |cons ha h2=>cases h2;exact⟨_,rfl,ha⟩
 obtain⟨L,c,T0,q1,q2,q3,q4,q5,q6,q7,q8,q9,q10⟩:=H.blk _ _ _ _ _ _ _ hkp;obtain⟨y,hy,hmy⟩:=q7 0 _ rfl;obtain⟨Lm,rfl,hLm⟩:=hmy.of_mp;obtain⟨Lm',cm,clock,p1,p2,⟨p3,p4,p5⟩,p6,p7,p8⟩:=H.mpo _ _ _ _ _ hkm;rw[hLm]at p1;cases p1;subst p4;have ha':a = .func (.func (num g)) #[] #[.pointer (some ⟨L.b,L.base+0,none⟩)]:=by
  cases ha with
  |fn _ _ vs hl0 hh=>
   have hs:vs.size=1:=by simpa using hl0.symm
   have h0:=hh 0 _ vs[0] rfl (by simp[hs]);obtain⟨L2,e0,hL2⟩:=h0.of_pt;rw[q1]at hL2;cases hL2;have:vs = #[vs[0]]:=by
    apply Array.ext;simp[hs];intro i h1 h2;have:i=0:=by omega
    subst this;rfl
   rw[this,e0]
 subst ha';have hb0:L.base=0:=L.hb (by rw[q2]);have hcell:w.cell? ⟨L.b,0,none⟩=some (.map (some Lm.b)):=by rw[hb0,Nat.zero_add]at hy;have hy':c[0]?=some (.map (some Lm.b)):=hy;simp[World.cell?,q4,hy']
 have hbl:L.b<w.heap.size:=by by_cases hlt:L.b<w.heap.size;exact hlt;simp[Array.getElem?_eq_none (Nat.le_of_not_lt hlt)]at q4
 obtain⟨l1,l2⟩:=uT hl;have hkeys:cm.toList.map (·.key)=l.map Go.Proofs.encStr:=by
  apply List.ext_getElem?;intro i;rw[List.getElem?_map,List.getElem?_map];by_cases hi:i<es.length;have hci:i<cm.size:=by omega
  obtain⟨s,hs1,hs2⟩:=l2 i es[i] (by simp[hi]);have h1:=(p6 i es[i] cm[i] (by simp[hi]) (by simp[hci])).1;rw[hs1]at h1;rw[hs2];have:cm.toList[i]?=some cm[i]:=by simp[hci]
  rw[this];simp only[Option.map_some,aK];rw[h1.of_str];have h1:cm.toList[i]?=none:=by simp;omega
  have h2:l[i]?=none:=by simp;omega
  rw[h1,h2];rfl
 have hst:Stamped cm clock:=by refine⟨?_,?_,?_⟩;intro x hx;have:=k3 x.born (by rw[<-p5];exact List.mem_map_of_mem hx);exact this;rw[p5];exact pY k2;rw[hkeys];exact List.pairwise_map.2 ((pX k1).imp λh e=>h (encStr_inj e))
 rw[hb0,Nat.zero_add];refine(hc L.b Lm.b cm clock l w hcell hbl p2 hst hkeys k4 (λs hs=>k5 s hs)).mono ?_;rintro e w' ⟨v,ss,rfl,hperm,hrow,hnil,hbe⟩;obtain⟨ev,H'⟩:=gQ H hbe;refine⟨v,ρ,O,rfl,ev,H',?_⟩;have hsort:ss.mergeSort leB=sortS l:=by rw[GG];exact mergeSort_of_perm hperm
 by_cases hl0:l=[]
 subst hl0;have:ss=[]:=hperm.eq_nil;rw[hnil.2 this];exact .nsl _;have hss:ss≠[]:=λe=>hl0 (by rw[e]at hperm;exact hperm.symm.eq_nil);rcases hrow.2 with ⟨rfl,hz⟩|⟨gb,cap,cur,rfl,hbase,hgb,r1,r2,r3,r4⟩
 exact absurd (eG hz) hss;have hlen:ss.length=(sortS l).length:=by rw[<-hsort,List.length_mergeSort]
 have hie:l.isEmpty=false:=by cases l;exact absurd rfl hl0;rfl
 rw[hie];have hgl:gb<w'.heap.size:=(iQ.1 hgb).1;have hv':(Value.slice (some ⟨gb,0,none⟩) ss.length cap) = .slice (some ⟨gb,0,none⟩) ((sortS l).map AV.str).length cap:=by rw[d7,hlen]
 rw[hv'];have hcur:∀n,n<(sortS l).length->cur[n]?=((sortS l)[n]?).map Go.Proofs.encStr:=by
  intro n hn;have:(cur.toList.take (ss.length*1))[n]?=((ss.mergeSort leB).map Go.Proofs.encStr)[n]?:=by rw[r4]
  rw[hsort,List.getElem?_map,List.getElem?_take,if_pos (by omega)]at this;rw[<-this];simp
 refine .sl _ false gb 0 cap 1 (λn=>(cur[n]?).getD undef) (by rw[d7,<-hlen];exact r1) (by intro h;cases h) ?_ ?_ ?_ ?_ none (λ_=>rfl);intro _;refine⟨λhF=>?_,hgl⟩;rcases hF with hF|hF;have:=H.fbl _ hF;have:=H.le;omega;have:=(H.own _ hF).2;omega;intro i e he;rw[List.getElem?_map,gC]at he;obtain⟨s,_,rfl⟩:=he;rfl;intro n hn;rw[d7,Nat.mul_one]at hn;have hcl:n<cur.size:=by rw[r3];omega
 rw[Nat.zero_add];simp[World.cell?,hgb,hcl];intro i e j x he hx;rw[List.getElem?_map,gC]at he;obtain⟨s,hs,rfl⟩:=he;have hj:j=0:=by
  cases j with
  |zero=>rfl
  |succ j=>simp[AV.cells]at hx
 subst hj;simp[AV.cells]at hx;subst hx;have hi:i<(sortS l).length:=(bK.1 hs).1;rw[Nat.mul_one,Nat.add_zero,hcur i hi,hs];exact .str _
end
end
end Go.Tev
section
namespace Go.Proofs
open Go.Shelf Go.RowKit Go.Maps Go.Sort
def Tryz.lays156_ren:Go.Shelf.Ren:=⟨λ|156=>345|165=>360|166=>361|169=>362|240=>367|241=>368|276=>369|277=>370|n=>n,λ|31=>27|9=>9|3=>3|4=>4|0=>0|20=>20|72=>384|76=>214|70=>382|37=>117|75=>213|127=>350|164=>392|5=>5|80=>386|n=>n,λ|n=>n⟩
theorem aB{α : Type}{x:Option α}{a b : α}(h:x=some a)(k:a=b:=by kernel_rfl):x=some b:=h.trans (congrArg some k)
theorem Tryz.lays156:Go.Proofs.Lays.n156 Tryz.prog Tryz.lays156_ren:={
 mixed:=by kernel_rfl
 f156:=aB Tryz.func345
 f165:=aB Tryz.func360
 f166:=aB Tryz.func361
 f169:=aB Tryz.func362
 f240:=aB Tryz.func367
 f241:=aB Tryz.func368
 f276:=aB Tryz.func369
 f277:=aB Tryz.func370
 t0:=Tryz.underlying0
 a0:=Tryz.isAgg0
 z0:=Tryz.sizeOf0
 v0:=Tryz.zeroValue0
 t3:=Tryz.underlying3
 a3:=Tryz.isAgg3
 z3:=Tryz.sizeOf3
 v3:=Tryz.zeroValue3
 t4:=Tryz.underlying4
 a4:=Tryz.isAgg4
 z4:=Tryz.sizeOf4
 v4:=Tryz.zeroValue4
 t9:=Tryz.underlying9
 a9:=Tryz.isAgg9
 z9:=Tryz.sizeOf9
 v9:=Tryz.zeroValue9
 t20:=Tryz.underlying20
 a20:=Tryz.isAgg20
 z20:=Tryz.sizeOf20
 v20:=Tryz.zeroValue20
 t31:=Tryz.underlying27
 a31:=Tryz.isAgg27
 z31:=Tryz.sizeOf27
 v31:=Tryz.zeroValue27
 t37:=Tryz.underlying117
 a37:=Tryz.isAgg117
 z37:=Tryz.sizeOf117
 v37:=Tryz.zeroValue117
 t70:=Tryz.underlying382
 a70:=Tryz.isAgg382
 z70:=Tryz.sizeOf382
 v70:=Tryz.zeroValue382
 t72:=Tryz.underlying384
 a72:=Tryz.isAgg384
 z72:=Tryz.sizeOf384
 v72:=Tryz.zeroValue384
 t75:=Tryz.underlying213
 a75:=Tryz.isAgg213
 z75:=Tryz.sizeOf213
 v75:=Tryz.zeroValue213
 t76:=Tryz.underlying214
 a76:=Tryz.isAgg214
 z76:=Tryz.sizeOf214
 v76:=Tryz.zeroValue214
 t127:=Tryz.underlying350
 a127:=Tryz.isAgg350
 z127:=Tryz.sizeOf350
 v127:=Tryz.zeroValue350
 t164:=Tryz.underlying392
 a164:=Tryz.isAgg392
 z164:=Tryz.sizeOf392
 v164:=Tryz.zeroValue392}
def Tryz.laysM145_ren:Go.Shelf.Ren:=⟨λ|145=>277|220=>302|219=>331|217=>317|225=>293|224=>292|267=>355|266=>348|314=>365|n=>n,λ|9=>9|4=>4|59=>296|3=>3|5=>5|46=>116|146=>390|51=>165|n=>n,λ|1=>8|n=>n⟩
theorem Tryz.laysM145:Go.Proofs.LaysM.n145 Tryz.prog Tryz.laysM145_ren:={
 mixed:=by kernel_rfl
 f145:=aB Tryz.func277
 f217:=aB Tryz.func317
 f219:=aB Tryz.func331
 f220:=aB Tryz.func302
 f224:=aB Tryz.func292
 f225:=aB Tryz.func293
 f266:=aB Tryz.func348
 f267:=aB Tryz.func355
 f314:=aB Tryz.func365
 t3:=Tryz.underlying3
 a3:=Tryz.isAgg3
 z3:=Tryz.sizeOf3
 v3:=Tryz.zeroValue3
 t4:=Tryz.underlying4
 a4:=Tryz.isAgg4
 z4:=Tryz.sizeOf4
 v4:=Tryz.zeroValue4
 t5:=Tryz.underlying5
 a5:=Tryz.isAgg5
 z5:=Tryz.sizeOf5
 v5:=Tryz.zeroValue5
 t9:=Tryz.underlying9
 a9:=Tryz.isAgg9
 z9:=Tryz.sizeOf9
 v9:=Tryz.zeroValue9
 t46:=Tryz.underlying116
 a46:=Tryz.isAgg116
 z46:=Tryz.sizeOf116
 v46:=Tryz.zeroValue116
 t51:=Tryz.underlying165
 a51:=Tryz.isAgg165
 z51:=Tryz.sizeOf165
 v51:=Tryz.zeroValue165
 t59:=Tryz.underlying296
 a59:=Tryz.isAgg296
 z59:=Tryz.sizeOf296
 v59:=Tryz.zeroValue296
 t146:=Tryz.underlying390
 a146:=Tryz.isAgg390
 z146:=Tryz.sizeOf390
 v146:=Tryz.zeroValue390
 g1:=by kernel_rfl
 i3:=by kernel_rfl
 i4:=by kernel_rfl
 i5:=by kernel_rfl
 i9:=by kernel_rfl
 i46:=by kernel_rfl
 i51:=by kernel_rfl
 i59:=by kernel_rfl
 i146:=by kernel_rfl
 m1:=by kernel_rfl
 s1_3:=λw h=>Go.Proofs.cell_of_shapedOpen_int (zero := #[.int .i64 0]) (t:=3) h (of_decide_eq_true (by kernel_rfl)) (by kernel_rfl) rfl (by kernel_rfl) (by kernel_rfl) Tryz.underlying3}
def Tryz.keysK_ren:Go.Shelf.Ren:=⟨λ|7=>206|10=>260|n=>n,λ|23=>91|26=>9|3=>3|28=>251|0=>0|27=>250|33=>80|4=>4|n=>n,λ|n=>n⟩
theorem Tryz.keysK:Go.Proofs.SlLaysZ.n7 Tryz.prog Tryz.keysK_ren:={
 mixed:=by kernel_rfl
 f7:=⟨Tryz.f206.name,by decide,aB Tryz.func206⟩
 f10:=⟨Tryz.f260.name,by decide,aB Tryz.func260⟩
 t0:=Tryz.underlying0
 a0:=Tryz.isAgg0
 z0:=Tryz.sizeOf0
 v0:=Tryz.zeroValue0
 t4:=Tryz.underlying4
 a4:=Tryz.isAgg4
 z4:=Tryz.sizeOf4
 v4:=Tryz.zeroValue4
 t23:=Tryz.underlying91
 a23:=Tryz.isAgg91
 z23:=Tryz.sizeOf91
 v23:=Tryz.zeroValue91
 t26:=Tryz.underlying9
 a26:=Tryz.isAgg9
 z26:=Tryz.sizeOf9
 v26:=Tryz.zeroValue9
 t27:=Tryz.underlying250
 a27:=Tryz.isAgg250
 z27:=Tryz.sizeOf250
 v27:=Tryz.zeroValue250
 t28:=Tryz.underlying251
 a28:=Tryz.isAgg251
 z28:=Tryz.sizeOf251
 v28:=Tryz.zeroValue251
 t33:=Tryz.underlying80
 a33:=Tryz.isAgg80
 z33:=Tryz.sizeOf80
 v33:=Tryz.zeroValue80}
def Tryz.sortedK_ren:Go.Shelf.Ren:=⟨λ|6=>205|8=>258|9=>259|11=>294|13=>64|12=>295|23=>125|24=>126|14=>318|15=>319|16=>320|17=>321|18=>322|19=>323|20=>324|21=>325|22=>326|25=>349|26=>177|27=>178|28=>350|29=>351|30=>352|31=>364|n=>n,λ|26=>9|28=>251|24=>27|0=>0|3=>3|37=>116|48=>165|50=>167|4=>4|40=>158|39=>157|45=>94|5=>5|9=>9|51=>218|55=>222|57=>258|58=>242|33=>80|n=>n,λ|n=>n⟩
theorem Tryz.sortedK:Go.Proofs.SlLaysZ.n6 Tryz.prog Tryz.sortedK_ren:={
 mixed:=by kernel_rfl
 f6:=⟨Tryz.f205.name,by decide,aB Tryz.func205⟩
 f8:=⟨Tryz.f258.name,by decide,aB Tryz.func258⟩
 f11:=⟨Tryz.f294.name,by decide,aB Tryz.func294⟩
 t0:=Tryz.underlying0
 a0:=Tryz.isAgg0
 z0:=Tryz.sizeOf0
 v0:=Tryz.zeroValue0
 t24:=Tryz.underlying27
 a24:=Tryz.isAgg27
 z24:=Tryz.sizeOf27
 v24:=Tryz.zeroValue27
 t26:=Tryz.underlying9
 a26:=Tryz.isAgg9
 z26:=Tryz.sizeOf9
 v26:=Tryz.zeroValue9
 t28:=Tryz.underlying251
 a28:=Tryz.isAgg251
 z28:=Tryz.sizeOf251
 v28:=Tryz.zeroValue251
 i26:=by kernel_rfl}
def Tryz.sortS_ren:Go.Shelf.Ren:=⟨λ|6=>259|8=>64|9=>295|19=>125|20=>126|21=>318|22=>319|23=>320|24=>321|25=>322|26=>323|27=>324|28=>325|29=>326|36=>349|31=>177|32=>178|37=>350|38=>351|39=>352|41=>364|n=>n,λ|27=>27|29=>9|3=>3|32=>116|26=>27|0=>0|44=>165|46=>167|4=>4|36=>158|35=>157|41=>94|5=>5|9=>9|53=>218|57=>222|63=>258|64=>242|n=>n,λ|n=>n⟩
theorem Tryz.sortS:Go.Proofs.SlLaysM.n6 Tryz.prog Tryz.sortS_ren:={
 mixed:=by kernel_rfl
 f6:=⟨Tryz.f259.name,by decide,aB Tryz.func259⟩
 f8:=aB Tryz.func64
 f9:=⟨Tryz.f295.name,by decide,aB Tryz.func295⟩
 f19:=aB Tryz.func125
 f20:=aB Tryz.func126
 f21:=⟨Tryz.f318.name,by decide,aB Tryz.func318⟩
 f22:=⟨Tryz.f319.name,by decide,aB Tryz.func319⟩
 f23:=⟨Tryz.f320.name,by decide,aB Tryz.func320⟩
 f24:=⟨Tryz.f321.name,by decide,aB Tryz.func321⟩
 f25:=⟨Tryz.f322.name,by decide,aB Tryz.func322⟩
 f26:=⟨Tryz.f323.name,by decide,aB Tryz.func323⟩
 f27:=⟨Tryz.f324.name,by decide,aB Tryz.func324⟩
 f28:=⟨Tryz.f325.name,by decide,aB Tryz.func325⟩
 f29:=⟨Tryz.f326.name,by decide,aB Tryz.func326⟩
 f31:=aB Tryz.func177
 f32:=aB Tryz.func178
 f36:=⟨Tryz.f349.name,by decide,aB Tryz.func349⟩
 f37:=⟨Tryz.f350.name,by decide,aB Tryz.func350⟩
 f38:=⟨Tryz.f351.name,by decide,aB Tryz.func351⟩
 f39:=⟨Tryz.f352.name,by decide,aB Tryz.func352⟩
 f41:=⟨Tryz.f364.name,by decide,aB Tryz.func364⟩
 t0:=Tryz.underlying0
 a0:=Tryz.isAgg0
 z0:=Tryz.sizeOf0
 v0:=Tryz.zeroValue0
 t3:=Tryz.underlying3
 a3:=Tryz.isAgg3
 z3:=Tryz.sizeOf3
 v3:=Tryz.zeroValue3
 t4:=Tryz.underlying4
 a4:=Tryz.isAgg4
 z4:=Tryz.sizeOf4
 v4:=Tryz.zeroValue4
 t5:=Tryz.underlying5
 a5:=Tryz.isAgg5
 z5:=Tryz.sizeOf5
 v5:=Tryz.zeroValue5
 t9:=Tryz.underlying9
 a9:=Tryz.isAgg9
 z9:=Tryz.sizeOf9
 v9:=Tryz.zeroValue9
 t26:=Tryz.underlying27
 a26:=Tryz.isAgg27
 z26:=Tryz.sizeOf27
 v26:=Tryz.zeroValue27
 t27:=Tryz.underlying27
 a27:=Tryz.isAgg27
 z27:=Tryz.sizeOf27
 v27:=Tryz.zeroValue27
 t29:=Tryz.underlying9
 a29:=Tryz.isAgg9
 z29:=Tryz.sizeOf9
 v29:=Tryz.zeroValue9
 t32:=Tryz.underlying116
 a32:=Tryz.isAgg116
 z32:=Tryz.sizeOf116
 v32:=Tryz.zeroValue116
 t35:=Tryz.underlying157
 a35:=Tryz.isAgg157
 z35:=Tryz.sizeOf157
 v35:=Tryz.zeroValue157
 t36:=Tryz.underlying158
 a36:=Tryz.isAgg158
 z36:=Tryz.sizeOf158
 v36:=Tryz.zeroValue158
 t41:=Tryz.underlying94
 a41:=Tryz.isAgg94
 z41:=Tryz.sizeOf94
 v41:=Tryz.zeroValue94
 t44:=Tryz.underlying165
 a44:=Tryz.isAgg165
 z44:=Tryz.sizeOf165
 v44:=Tryz.zeroValue165
 t46:=Tryz.underlying167
 a46:=Tryz.isAgg167
 z46:=Tryz.sizeOf167
 v46:=Tryz.zeroValue167
 t53:=Tryz.underlying218
 a53:=Tryz.isAgg218
 z53:=Tryz.sizeOf218
 v53:=Tryz.zeroValue218
 t57:=Tryz.underlying222
 a57:=Tryz.isAgg222
 z57:=Tryz.sizeOf222
 v57:=Tryz.zeroValue222
 t63:=Tryz.underlying258
 a63:=Tryz.isAgg258
 z63:=Tryz.sizeOf258
 v63:=Tryz.zeroValue258
 t64:=Tryz.underlying242
 a64:=Tryz.isAgg242
 z64:=Tryz.sizeOf242
 v64:=Tryz.zeroValue242}
theorem Tryz.joinX:Builder.Extra Tryz.prog Tryz.lays156_ren where
 sizeBuilder:=by kernel_rfl
 liesBuilder:=by kernel_rfl
 t5:=Tryz.underlying5
 a5:=Tryz.isAgg5
 z5:=Tryz.sizeOf5
 v5:=Tryz.zeroValue5
 infoByte:=by kernel_rfl
 cellsByte:=by kernel_rfl
 sizeByte:=by kernel_rfl
 neB5:=by decide
theorem AF(w:World):∀n,Below w.heap.size w (w.drewN n):=by intro n;exact⟨rfl,rfl,rfl,Nat.le_refl _,λ_ _=>rfl⟩
theorem aHz(m:Int)(s sep:ByteArray)(w:World)(hs:s.size<=1000000)(hm:w.cell? ⟨8,0,none⟩=some (.int .i64 m)) :
  Calls Tryz.prog 277 #[.string s,.string sep] w λe w'=>e = .returned (.tuple #[.string ⟨(Lib.cut s.data.toList sep.data.toList).1.toArray⟩,.string ⟨(Lib.cut s.data.toList sep.data.toList).2.1.toArray⟩,.bool (Lib.cut s.data.toList sep.data.toList).2.2])/\Below w.heap.size w w':=by
 refine(Any.strings_Cut (ρ:=Tryz.laysM145_ren) {Tryz.laysM145 with} s sep m w (by omega) hm).mono ?_;rintro e w' ⟨rfl,n,rfl⟩;exact⟨rfl,AF w n⟩
theorem WF(m:Nat):AnyZ.SortsIn Tryz.prog Tryz.sortedK_ren Fence.wide m:=
 ⟨λblk off cap ss W hH hblk hsz=>callsIn_wide.2 (AnyM.slices_Sort_string Tryz.sortS blk off cap ss W hH hblk hsz),
  λp cap W=>callsIn_wide.2 (AnyM.slices_Sort_string_none Tryz.sortS p cap W)⟩
def tD(_:Value):Option (DataW Unit×List MemPlace):=some (.nil,[])
set_option maxRecDepth 100000 in
set_option maxHeartbeats 1000000 in
theorem KA(Bm b:Nat)(es:Array MapEntry)(clock:Nat)(l:List (List UInt8))(w:World)(hm:w.cell? ⟨Bm,0,none⟩=some (.map (some b)))(hBm:Bm<w.heap.size)(hb:w.heap[b]?=some (.map es clock))(hst:MapKept.Stamped es clock)
  (hk:es.toList.map (·.key)=l.map encStr) (hl:l.length<=1000) (hs:∀s∈l,s.length<=1000) :
  Calls Tryz.prog 205 #[.func (.func 260) #[] #[.pointer (some ⟨Bm,0,none⟩)]] w λe w'=>∃(v:Value)(ss:List (List UInt8)),e = .returned v/\ss.Perm l /\
   w'.ownsRow w.heap.size 9 1 v ss.length ((ss.mergeSort leB).map encStr)/\(v = .slice none 0 0↔ss=[])/\Below w.heap.size w w':=by
 have hlen:es.size=l.length:=by have:=congrArg List.length hk;simpa using this
 have hkey:∀x∈es.toList,∃s,s∈l/\x.key=encStr s:=by
  intro x hx;have:x.key∈l.map encStr:=by rw[<-hk];exact List.mem_map_of_mem hx
  obtain⟨s,h1,h2⟩:=List.mem_map.1 this;exact⟨s,h1,h2.symm⟩
 have hko:∀s∈l,keyOf Tryz.prog 9 (encStr s)=some (.string s):=by intro s h;have:=hs s h;simp[keyOf,Tryz.underlying9,mapKey,encStr,ByteArray.size,maxLen];omega
 have hF:WideElems.Fit Tryz.prog 9 tD es clock:=by refine⟨by rw[hlen];simp only[maxLen];omega,hst,?_⟩;intro x hx;obtain⟨s,h1,h2⟩:=hkey x hx;exact⟨(.string s,.nil),by simp[WideElems.rd,h2,hko s h1,tD]⟩
 have hown:w.ownsMap Tryz.prog 9 tD b es.size (.map ((es.toList.map (WideElems.rg Tryz.prog 9 tD)).foldr DataW.insert [])):=⟨es,clock,hb,hF,Nat.le_refl _,rfl⟩
 have hperm:(strKeys (.map ((es.toList.map (WideElems.rg Tryz.prog 9 tD)).foldr DataW.insert []):DataW Unit)).Perm l:=by
  have h1:=(WideShapes.sorted_perm (es.toList.map (WideElems.rg Tryz.prog 9 tD))).map λp=>strOf p.1;refine h1.trans ?_
  have:(es.toList.map (WideElems.rg Tryz.prog 9 tD)).map (λp=>strOf p.1)=l:=by
   rw[List.map_map]
   have e1:es.toList.map ((λp:Lit×DataW Unit=>strOf p.1) ∘ WideElems.rg Tryz.prog 9 tD)=es.toList.map λx=>strOf ((keyOf Tryz.prog 9 x.key).getD (.bool false)):=by refine List.map_congr_left λx hx=>?_;obtain⟨s,h1,h2⟩:=hkey x hx;simp[WideElems.rg,WideElems.rd,h2,hko s h1,tD]
   rw[e1,show (λx:MapEntry=>strOf ((keyOf Tryz.prog 9 x.key).getD (.bool false)))=(λv=>strOf ((keyOf Tryz.prog 9 v).getD (.bool false))) ∘ MapEntry.key from rfl,<-List.map_map,hk,List.map_map]
   have:∀(r:List (List UInt8)),(∀s∈r,s∈l)->r.map ((λv=>strOf ((keyOf Tryz.prog 9 v).getD (.bool false))) ∘ encStr)=r:=by
    intro r
    induction r with
    |nil=>intro _;rfl
    |cons s r ih=>intro h;rw[List.map_cons,ih λx hx=>h x (List.mem_cons_of_mem _ hx)];simp[hko s (h s (by simp)),strOf]
   exact this l λ_ h=>h
  rw[this]
 have hsize:Maps.size (.map ((es.toList.map (WideElems.rg Tryz.prog 9 tD)).foldr DataW.insert []):DataW Unit)<=1000:=by show ((es.toList.map (WideElems.rg Tryz.prog 9 tD)).foldr DataW.insert []).length<=1000;rw[DataW.length_sorted];simp;omega
 have hseq:=AnyZ.keys_gives (ρ:=Tryz.keysK_ren) {Tryz.keysK with} Fence.wide 2 trivial rfl (by omega) Bm b es.size _ w hBm hm hown;have hc:=AnyZ.sorted_in Tryz.sortedK Fence.wide 5 trivial trivial trivial trivial rfl (by omega) (WF _) (enters_of Tryz.func259 (by kernel_rfl) rfl) 260 #[.pointer (some ⟨Bm,0,none⟩)] trivial (enters_of Tryz.func260 (by kernel_rfl) rfl) _ _ (by simp only[maxLen];omega) (by omega) w hseq;refine(callsIn_wide.1 hc).mono ?_;rintro e w' ⟨v,ss,he,hS,hrow,hnil,hbe⟩;exact⟨v,ss,he,hS.trans hperm,hrow,hnil,hbe⟩
theorem aHh{W:World}(h:W.ShapedOpen Tryz.prog):∃(m:Int)(T:TypeId)(fr:Nat×Nat),W.heap[8]?=some (.cells #[.int .i64 m] T fr):=by
 obtain⟨m,hm⟩:=Tryz.laysM145.s1_3 W h;obtain⟨cs,hh,hs,_⟩:=h.1 8 #[.int .i64 0] 3 (of_decide_eq_true (by kernel_rfl)) (by kernel_rfl);have h1:cs.size=1:=hs;have h0:0<cs.size:=by omega
 have:W.cell? ⟨8,0,none⟩=some cs[0]:=by simp[World.cell?,hh,h0]
 have hm':W.cell? ⟨8,0,none⟩=some (.int .i64 m):=hm;rw[this]at hm';have e:cs = #[cs[0]]:=by
  apply Array.ext;simp[h1];intro i h2 h3;have:i=0:=by omega
  subst this;rfl
 refine⟨m,3,(0,0),?_⟩;rw[hh,e,Option.some.inj hm']
end Go.Proofs
end
section
namespace Go.Proofs
open Go.Shelf
def Tryz.laysM171_ren:Go.Shelf.Ren:=⟨λ|171=>33|243=>65|246=>127|283=>182|284=>183|285=>184|286=>185|129=>126|317=>218|318=>219|319=>220|320=>221|337=>269|338=>270|n=>n,λ|3=>3|9=>9|2=>2|4=>4|171=>224|0=>0|53=>167|37=>117|5=>5|173=>226|212=>261|51=>165|20=>20|213=>262|46=>116|232=>325|233=>326|n=>n,λ|17=>0|18=>5|19=>6|n=>n⟩
theorem Tryz.laysM171:Go.Proofs.LaysM.n171 Tryz.prog Tryz.laysM171_ren:={
 mixed:=by kernel_rfl
 f129:=aB Tryz.func126
 f171:=aB Tryz.func33
 f243:=aB Tryz.func65
 f246:=aB Tryz.func127
 f283:=aB Tryz.func182
 f284:=aB Tryz.func183
 f285:=aB Tryz.func184
 f286:=aB Tryz.func185
 f317:=aB Tryz.func218
 f318:=aB Tryz.func219
 f319:=aB Tryz.func220
 f320:=aB Tryz.func221
 f337:=aB Tryz.func269
 f338:=aB Tryz.func270
 t0:=Tryz.underlying0
 a0:=Tryz.isAgg0
 z0:=Tryz.sizeOf0
 v0:=Tryz.zeroValue0
 t2:=Tryz.underlying2
 a2:=Tryz.isAgg2
 z2:=Tryz.sizeOf2
 v2:=Tryz.zeroValue2
 t3:=Tryz.underlying3
 a3:=Tryz.isAgg3
 z3:=Tryz.sizeOf3
 v3:=Tryz.zeroValue3
 t4:=Tryz.underlying4
 a4:=Tryz.isAgg4
 z4:=Tryz.sizeOf4
 v4:=Tryz.zeroValue4
 t5:=Tryz.underlying5
 a5:=Tryz.isAgg5
 z5:=Tryz.sizeOf5
 v5:=Tryz.zeroValue5
 t9:=Tryz.underlying9
 a9:=Tryz.isAgg9
 z9:=Tryz.sizeOf9
 v9:=Tryz.zeroValue9
 t20:=Tryz.underlying20
 a20:=Tryz.isAgg20
 z20:=Tryz.sizeOf20
 v20:=Tryz.zeroValue20
 t37:=Tryz.underlying117
 a37:=Tryz.isAgg117
 z37:=Tryz.sizeOf117
 v37:=Tryz.zeroValue117
 t46:=Tryz.underlying116
 a46:=Tryz.isAgg116
 z46:=Tryz.sizeOf116
 v46:=Tryz.zeroValue116
 t51:=Tryz.underlying165
 a51:=Tryz.isAgg165
 z51:=Tryz.sizeOf165
 v51:=Tryz.zeroValue165
 t53:=Tryz.underlying167
 a53:=Tryz.isAgg167
 z53:=Tryz.sizeOf167
 v53:=Tryz.zeroValue167
 t171:=Tryz.underlying224
 a171:=Tryz.isAgg224
 z171:=Tryz.sizeOf224
 v171:=Tryz.zeroValue224
 t173:=Tryz.underlying226
 a173:=Tryz.isAgg226
 z173:=Tryz.sizeOf226
 v173:=Tryz.zeroValue226
 t212:=Tryz.underlying261
 a212:=Tryz.isAgg261
 z212:=Tryz.sizeOf261
 v212:=Tryz.zeroValue261
 t213:=Tryz.underlying262
 a213:=Tryz.isAgg262
 z213:=Tryz.sizeOf262
 t232:=Tryz.underlying325
 a232:=Tryz.isAgg325
 z232:=Tryz.sizeOf325
 v232:=Tryz.zeroValue325
 t233:=Tryz.underlying326
 a233:=Tryz.isAgg326
 z233:=Tryz.sizeOf326
 v233:=Tryz.zeroValue326
 g17:=by kernel_rfl
 g18:=by kernel_rfl
 g19:=by kernel_rfl
 i0:=by kernel_rfl
 i2:=by kernel_rfl
 i3:=by kernel_rfl
 i4:=by kernel_rfl
 i5:=by kernel_rfl
 i9:=by kernel_rfl
 i20:=by kernel_rfl
 i37:=by kernel_rfl
 i46:=by kernel_rfl
 i51:=by kernel_rfl
 i53:=by kernel_rfl
 i171:=by kernel_rfl
 i173:=by kernel_rfl
 i212:=by kernel_rfl
 i232:=by kernel_rfl
 i233:=by kernel_rfl
 m17:=by kernel_rfl
 m18:=by kernel_rfl
 m19:=by kernel_rfl}
def Tryz.laysC172_ren:Go.Shelf.Ren:=⟨λ|172=>171|244=>215|245=>216|247=>264|279=>265|280=>266|281=>267|282=>268|287=>296|316=>297|171=>33|205=>298|321=>327|322=>328|243=>65|246=>127|283=>182|284=>183|285=>184|286=>185|129=>126|317=>218|318=>219|319=>220|320=>221|337=>269|338=>270|n=>n,λ|9=>9|3=>3|75=>213|76=>214|4=>4|5=>5|167=>284|37=>117|0=>0|85=>285|2=>2|168=>287|53=>167|175=>319|46=>116|210=>323|127=>350|145=>353|143=>351|21=>21|171=>224|173=>226|212=>261|51=>165|20=>20|213=>262|232=>325|233=>326|80=>386|n=>n,λ|15=>3|16=>4|17=>0|18=>5|19=>6|n=>n⟩
theorem Tryz.laysC172:Go.Proofs.LaysC.n172 Tryz.prog Tryz.laysC172_ren:={
 mixed:=by kernel_rfl
 f129:=aB Tryz.func126
 f171:=aB Tryz.func33
 f172:=aB Tryz.func171
 f205:=aB Tryz.func298
 f243:=aB Tryz.func65
 f244:=aB Tryz.func215
 f245:=aB Tryz.func216
 f246:=aB Tryz.func127
 f247:=aB Tryz.func264
 f279:=aB Tryz.func265
 f280:=aB Tryz.func266
 f281:=aB Tryz.func267
 f282:=aB Tryz.func268
 f283:=aB Tryz.func182
 f284:=aB Tryz.func183
 f285:=aB Tryz.func184
 f286:=aB Tryz.func185
 f287:=aB Tryz.func296
 f316:=aB Tryz.func297
 f317:=aB Tryz.func218
 f318:=aB Tryz.func219
 f319:=aB Tryz.func220
 f320:=aB Tryz.func221
 f321:=aB Tryz.func327
 f322:=aB Tryz.func328
 f337:=aB Tryz.func269
 f338:=aB Tryz.func270
 t0:=Tryz.underlying0
 a0:=Tryz.isAgg0
 z0:=Tryz.sizeOf0
 v0:=Tryz.zeroValue0
 t2:=Tryz.underlying2
 a2:=Tryz.isAgg2
 z2:=Tryz.sizeOf2
 v2:=Tryz.zeroValue2
 t3:=Tryz.underlying3
 a3:=Tryz.isAgg3
 z3:=Tryz.sizeOf3
 v3:=Tryz.zeroValue3
 t4:=Tryz.underlying4
 a4:=Tryz.isAgg4
 z4:=Tryz.sizeOf4
 v4:=Tryz.zeroValue4
 t5:=Tryz.underlying5
 a5:=Tryz.isAgg5
 z5:=Tryz.sizeOf5
 v5:=Tryz.zeroValue5
 t9:=Tryz.underlying9
 a9:=Tryz.isAgg9
 z9:=Tryz.sizeOf9
 v9:=Tryz.zeroValue9
 t20:=Tryz.underlying20
 a20:=Tryz.isAgg20
 z20:=Tryz.sizeOf20
 v20:=Tryz.zeroValue20
 t21:=Tryz.underlying21
 a21:=Tryz.isAgg21
 z21:=Tryz.sizeOf21
 v21:=Tryz.zeroValue21
 t37:=Tryz.underlying117
 a37:=Tryz.isAgg117
 z37:=Tryz.sizeOf117
 v37:=Tryz.zeroValue117
 t46:=Tryz.underlying116
 a46:=Tryz.isAgg116
 z46:=Tryz.sizeOf116
 v46:=Tryz.zeroValue116
 t51:=Tryz.underlying165
 a51:=Tryz.isAgg165
 z51:=Tryz.sizeOf165
 v51:=Tryz.zeroValue165
 t53:=Tryz.underlying167
 a53:=Tryz.isAgg167
 z53:=Tryz.sizeOf167
 v53:=Tryz.zeroValue167
 t75:=Tryz.underlying213
 a75:=Tryz.isAgg213
 z75:=Tryz.sizeOf213
 v75:=Tryz.zeroValue213
 t76:=Tryz.underlying214
 a76:=Tryz.isAgg214
 z76:=Tryz.sizeOf214
 v76:=Tryz.zeroValue214
 t85:=Tryz.underlying285
 a85:=Tryz.isAgg285
 z85:=Tryz.sizeOf285
 v85:=Tryz.zeroValue285
 t127:=Tryz.underlying350
 a127:=Tryz.isAgg350
 z127:=Tryz.sizeOf350
 v127:=Tryz.zeroValue350
 t143:=Tryz.underlying351
 a143:=Tryz.isAgg351
 z143:=Tryz.sizeOf351
 v143:=Tryz.zeroValue351
 t145:=Tryz.underlying353
 a145:=Tryz.isAgg353
 z145:=Tryz.sizeOf353
 v145:=Tryz.zeroValue353
 t167:=Tryz.underlying284
 a167:=Tryz.isAgg284
 z167:=Tryz.sizeOf284
 v167:=Tryz.zeroValue284
 t168:=Tryz.underlying287
 a168:=Tryz.isAgg287
 z168:=Tryz.sizeOf287
 v168:=Tryz.zeroValue287
 t171:=Tryz.underlying224
 a171:=Tryz.isAgg224
 z171:=Tryz.sizeOf224
 v171:=Tryz.zeroValue224
 t173:=Tryz.underlying226
 a173:=Tryz.isAgg226
 z173:=Tryz.sizeOf226
 v173:=Tryz.zeroValue226
 t175:=Tryz.underlying319
 a175:=Tryz.isAgg319
 z175:=Tryz.sizeOf319
 v175:=Tryz.zeroValue319
 t210:=Tryz.underlying323
 a210:=Tryz.isAgg323
 z210:=Tryz.sizeOf323
 v210:=Tryz.zeroValue323
 t212:=Tryz.underlying261
 a212:=Tryz.isAgg261
 z212:=Tryz.sizeOf261
 v212:=Tryz.zeroValue261
 t213:=Tryz.underlying262
 a213:=Tryz.isAgg262
 z213:=Tryz.sizeOf262
 t232:=Tryz.underlying325
 a232:=Tryz.isAgg325
 z232:=Tryz.sizeOf325
 v232:=Tryz.zeroValue325
 t233:=Tryz.underlying326
 a233:=Tryz.isAgg326
 z233:=Tryz.sizeOf326
 v233:=Tryz.zeroValue326
 g15:=by kernel_rfl
 g16:=by kernel_rfl
 g17:=by kernel_rfl
 g18:=by kernel_rfl
 g19:=by kernel_rfl
 t80:=Tryz.underlying386
 a80:=Tryz.isAgg386
 z80:=Tryz.sizeOf386
 v80:=Tryz.zeroValue386
 i0:=by kernel_rfl
 i2:=by kernel_rfl
 i3:=by kernel_rfl
 i4:=by kernel_rfl
 i5:=by kernel_rfl
 i9:=by kernel_rfl
 i20:=by kernel_rfl
 i21:=by kernel_rfl
 i37:=by kernel_rfl
 i46:=by kernel_rfl
 i51:=by kernel_rfl
 i53:=by kernel_rfl
 i75:=by kernel_rfl
 i76:=by kernel_rfl
 i80:=by kernel_rfl
 i85:=by kernel_rfl
 i127:=by kernel_rfl
 i143:=by kernel_rfl
 i145:=by kernel_rfl
 i167:=by kernel_rfl
 i168:=by kernel_rfl
 i171:=by kernel_rfl
 i173:=by kernel_rfl
 i175:=by kernel_rfl
 i210:=by kernel_rfl
 i212:=by kernel_rfl
 i232:=by kernel_rfl
 i233:=by kernel_rfl
 m15:=by kernel_rfl
 m16:=by kernel_rfl
 m17:=by kernel_rfl
 m18:=by kernel_rfl
 m19:=by kernel_rfl
 c0:=by kernel_rfl
 c2:=by kernel_rfl
 c3:=by kernel_rfl
 c4:=by kernel_rfl
 c5:=by kernel_rfl
 c9:=by kernel_rfl
 c20:=by kernel_rfl
 c21:=by kernel_rfl
 c37:=by kernel_rfl
 c46:=by kernel_rfl
 c51:=by kernel_rfl
 c53:=by kernel_rfl
 c75:=by kernel_rfl
 c76:=by kernel_rfl
 c80:=by kernel_rfl
 c85:=by kernel_rfl
 c127:=by kernel_rfl
 c143:=by kernel_rfl
 c145:=by kernel_rfl
 c167:=by kernel_rfl
 c168:=by kernel_rfl
 c171:=by kernel_rfl
 c173:=by kernel_rfl
 c175:=by kernel_rfl
 c210:=by kernel_rfl
 c212:=by kernel_rfl
 c213:=by kernel_rfl
 c232:=by kernel_rfl
 c233:=by kernel_rfl}
def Tryz.lays189_ren:Go.Shelf.Ren:=⟨λ|189=>30|125=>64|257=>63|128=>125|129=>126|294=>116|295=>117|296=>118|297=>119|298=>120|299=>121|216=>122|300=>123|301=>124|328=>176|329=>177|330=>178|331=>179|332=>180|215=>181|343=>217|n=>n,λ|28=>36|3=>3|46=>116|0=>0|51=>165|53=>167|4=>4|183=>158|182=>157|131=>94|5=>5|9=>9|218=>218|222=>222|228=>258|229=>242|n=>n,λ|n=>n⟩
theorem Tryz.lays189:Go.Proofs.Lays.n189 Tryz.prog Tryz.lays189_ren:={
 mixed:=by kernel_rfl
 f125:=aB Tryz.func64
 f128:=aB Tryz.func125
 f129:=aB Tryz.func126
 f189:=aB Tryz.func30
 f215:=aB Tryz.func181
 f216:=aB Tryz.func122
 f257:=aB Tryz.func63
 f294:=aB Tryz.func116
 f295:=aB Tryz.func117
 f296:=aB Tryz.func118
 f297:=aB Tryz.func119
 f298:=aB Tryz.func120
 f299:=aB Tryz.func121
 f300:=aB Tryz.func123
 f301:=aB Tryz.func124
 f328:=aB Tryz.func176
 f329:=aB Tryz.func177
 f330:=aB Tryz.func178
 f331:=aB Tryz.func179
 f332:=aB Tryz.func180
 f343:=aB Tryz.func217
 t0:=Tryz.underlying0
 a0:=Tryz.isAgg0
 z0:=Tryz.sizeOf0
 v0:=Tryz.zeroValue0
 t3:=Tryz.underlying3
 a3:=Tryz.isAgg3
 z3:=Tryz.sizeOf3
 v3:=Tryz.zeroValue3
 t4:=Tryz.underlying4
 a4:=Tryz.isAgg4
 z4:=Tryz.sizeOf4
 v4:=Tryz.zeroValue4
 t5:=Tryz.underlying5
 a5:=Tryz.isAgg5
 z5:=Tryz.sizeOf5
 v5:=Tryz.zeroValue5
 t9:=Tryz.underlying9
 a9:=Tryz.isAgg9
 z9:=Tryz.sizeOf9
 v9:=Tryz.zeroValue9
 t28:=Tryz.underlying36
 a28:=Tryz.isAgg36
 z28:=Tryz.sizeOf36
 v28:=Tryz.zeroValue36
 t46:=Tryz.underlying116
 a46:=Tryz.isAgg116
 z46:=Tryz.sizeOf116
 v46:=Tryz.zeroValue116
 t51:=Tryz.underlying165
 a51:=Tryz.isAgg165
 z51:=Tryz.sizeOf165
 v51:=Tryz.zeroValue165
 t53:=Tryz.underlying167
 a53:=Tryz.isAgg167
 z53:=Tryz.sizeOf167
 v53:=Tryz.zeroValue167
 t131:=Tryz.underlying94
 a131:=Tryz.isAgg94
 z131:=Tryz.sizeOf94
 v131:=Tryz.zeroValue94
 t182:=Tryz.underlying157
 a182:=Tryz.isAgg157
 z182:=Tryz.sizeOf157
 v182:=Tryz.zeroValue157
 t183:=Tryz.underlying158
 a183:=Tryz.isAgg158
 z183:=Tryz.sizeOf158
 v183:=Tryz.zeroValue158
 t218:=Tryz.underlying218
 a218:=Tryz.isAgg218
 z218:=Tryz.sizeOf218
 v218:=Tryz.zeroValue218
 t222:=Tryz.underlying222
 a222:=Tryz.isAgg222
 z222:=Tryz.sizeOf222
 v222:=Tryz.zeroValue222
 t228:=Tryz.underlying258
 a228:=Tryz.isAgg258
 z228:=Tryz.sizeOf258
 v228:=Tryz.zeroValue258
 t229:=Tryz.underlying242
 a229:=Tryz.isAgg242
 z229:=Tryz.sizeOf242
 v229:=Tryz.zeroValue242}
def Tryz.laysNm220_ren:Go.Shelf.Ren:=⟨λ|20=>31|n=>n,λ|22=>36|3=>3|4=>4|0=>0|n=>n,λ|n=>n⟩
theorem Tryz.laysNm220:Go.Proofs.Lays2.n20 Tryz.prog Tryz.laysNm220_ren:={
 mixed:=by kernel_rfl
 f20:=aB Tryz.func31
 t0:=Tryz.underlying0
 a0:=Tryz.isAgg0
 z0:=Tryz.sizeOf0
 v0:=Tryz.zeroValue0
 t3:=Tryz.underlying3
 a3:=Tryz.isAgg3
 z3:=Tryz.sizeOf3
 v3:=Tryz.zeroValue3
 t4:=Tryz.underlying4
 a4:=Tryz.isAgg4
 z4:=Tryz.sizeOf4
 v4:=Tryz.zeroValue4
 t22:=Tryz.underlying36
 a22:=Tryz.isAgg36
 z22:=Tryz.sizeOf36
 v22:=Tryz.zeroValue36
 i3:=by kernel_rfl}
open Go.RowKit Go.Sort Go.Lib in
theorem Tryz.strconv_Itoa(n:Int)(h0 : -9223372036854775808<=n)(h1:n<=9223372036854775807)(w:World){T:TypeId}{fr:Nat×Nat}(ht:w.heap[0]?=some (.cells (Lib.pow10Tab.map λz=>Value.int .u64 z).toArray T fr)) :
  Calls Tryz.prog 33 #[.int .i64 n] w λe w'=>e = .returned (.string ⟨(Lib.itoa n).toArray⟩)/\∃k os,w'=grow (w.drewN k) os:=by
 refine Any.strconv_Itoa Tryz.laysM171 n h0 h1 w ?_;unfold Lib.TabIs World.var?;rw[show Tryz.prog.globalNamed _=some 0 by kernel_rfl,Option.bind_some,ht]
open Go.RowKit in
theorem Tryz.strconv_Atoi_ok(s:ByteArray)(hmax:s.size<=9223372036854775806)(v:Int)(h:Lib.atoiAll s.data.toList = .ok v)(w:World) :
  Calls Tryz.prog 171 #[.string s] w λe w'=>e = .returned (.tuple #[.int .i64 v,.nilIface])/\(w'=w\/∃t,w'=Lib.bytesWorld w 5 t):=Any.strconv_Atoi_ok Tryz.laysC172 s hmax v h w
open Go.RowKit in
theorem Tryz.strconv_Atoi_bad(s:ByteArray)(hlim:s.size<=281474976710656)(h1:∀v,Lib.atoiAll s.data.toList ≠ .ok v)(h2:Lib.atoiAll s.data.toList ≠ .range)(ev:Value)(w:World)(hv:w.cell? ⟨3,0,none⟩=some ev)(hev:ev = .nilIface\/∃te pe,ev = .iface te pe) :
  Calls Tryz.prog 171 #[.string s] w λe w'=>∃N,e = .returned (.tuple #[.int .i64 (0),.iface 287 (.pointer (some ⟨N,0,none⟩))])/\w.heap.size<=N/\w'.heap[N]?=some (.cells #[.string ⟨#[65,116,111,105]⟩,.string s,ev] 323 (0,0))/\Below w.heap.size w w':=by
 cases h:Lib.atoiAll s.data.toList
 case ok v=>exact absurd h (h1 v)
 case range=>exact absurd h h2
 exact Any.strconv_Atoi_syntax Tryz.laysC172 s hlim h ev w hv hev
open Go.RowKit in
theorem Tryz.strconv_Atoi_range(s:ByteArray)(hlim:s.size<=281474976710656)(h:Lib.atoiAll s.data.toList = .range)(ev:Value)(w:World)(hv:w.cell? ⟨4,0,none⟩=some ev)(hev:ev = .nilIface\/∃te pe,ev = .iface te pe) :
  Calls Tryz.prog 171 #[.string s] w λe w'=>∃N,e = .returned (.tuple #[.int .i64 (Lib.atoiSat s.data.toList),.iface 287 (.pointer (some ⟨N,0,none⟩))])/\w.heap.size<=N/\w'.heap[N]?=some (.cells #[.string ⟨#[65,116,111,105]⟩,.string s,ev] 323 (0,0))/\Below w.heap.size w w':=Any.strconv_Atoi_range Tryz.laysC172 s hlim h ev w hv hev
open Go.Sort Go.RowKit in
theorem Tryz.slices_Sort_int(blk off cap:Nat)(zs:List Int)(w:World)(hH:Holds (Value.int .i64) w blk off zs.toArray)(hblk:blk<w.heap.size)(hsz:zs.length<4611686018427387904) :
  Calls Tryz.prog 30 #[.slice (some ⟨blk,off,none⟩) zs.length cap] w λe w'=>
   e = .returned (.tuple #[])/\∃n os,w'=grow (putRow (Value.int .i64) (Sort.ahead w n) blk off (zs.mergeSort λx y=>decide (x<=y)).toArray) os:=Any.slices_Sort_int Tryz.lays189 blk off cap zs w hH hblk hsz
open Go.RowKit Go.Lib Go.Sort in
theorem Tryz.slices_Compact_int(blk off cap:Nat)(zs:List Int)(w:World)(hH:Holds (Value.int .i64) w blk off zs.toArray)(hsz:zs.length<=9223372036854775807)(hcap:zs.length<=cap) :
  Calls Tryz.prog 31 #[.slice (some ⟨blk,off,none⟩) zs.length cap] w λe w'=>e = .returned (.slice (some ⟨blk,off,none⟩) (Lib.compact zs).length cap)/\∃q,w'=putRow (Value.int .i64) (Sort.ahead w q) blk off (Lib.compact zs++List.replicate (zs.length-(Lib.compact zs).length) 0).toArray:=Any.slices_Compact_int Tryz.laysNm220 blk off cap zs w hH hsz hcap
open Go.RowKit Go.Lib Go.Sort in
theorem Tryz.slices_Compact_int_empty(a:Option Addr)(cap:Nat)(w:World) :
  Calls Tryz.prog 31 #[.slice a 0 cap] w λe w'=>e = .returned (.slice a 0 cap)/\w'=w:=Any.slices_Compact_int_empty Tryz.laysNm220 a cap w
open Go.RowKit Go.Sort in
theorem Tryz.slices_Sort_int_none(p:Option Addr)(cap:Nat)(w:World) :
  Calls Tryz.prog 30 #[.slice p 0 cap] w λe w'=>e = .returned (.tuple #[])/\w'=w:=Any.slices_Sort_int_none Tryz.lays189 p cap w
end Go.Proofs
end
section
set_option maxRecDepth 100000
namespace Go.Proofs
open Go.Tev
def exB(f:Nat):Option (List AV->Nat->Hp->Option (AV×Hp)):=
 bif f.beq 92 then some lU else bif f.beq 93 then some lT else bif f.beq 75 then some oW else bif f.beq 76 then some oX else bif f.beq 522 then some wT else bif f.beq 455 then some DS else bif f.beq 401 then some (nS 442) else none
def s8:List Int:=[0,0,0,0,0,0,0,0,0,1,1,1,1,1,0,0,0,0,0,0,0,0,0,0,0,0,0,0,0,0,0,0,1,0,0,0,0,0,0,0,0,0,0,0,0,0,0,0,0,0,0,0,0,0,0,0,0,0,0,0,0,0,0,0,0,0,0,0,0,0,0,0,0,0,0,0,0,0,0,0,0,0,0,0,0,0,0,0,0,0,0,0,0,0,0,0,0,0,0,0,0,0,0,0,0,0,0,0,0,0,0,0,0,0,0,0,0,0,0,0,0,0,0,0,0,0,0,0,0,0,0,0,0,0,0,0,0,0,0,0,0,0,0,0,0,0,0,0,0,0,0,0,0,0,0,0,0,0,0,0,0,0,0,0,0,0,0,0,0,0,0,0,0,0,0,0,0,0,0,0,0,0,0,0,0,0,0,0,0,0,0,0,0,0,0,0,0,0,0,0,0,0,0,0,0,0,0,0,0,0,0,0,0,0,0,0,0,0,0,0,0,0,0,0,0,0,0,0,0,0,0,0,0,0,0,0,0,0,0,0,0,0,0,0,0,0,0,0,0,0,0,0,0,0,0,0]
def glS(m:Int)(g:Nat):Option AV:=
 bif g.beq 3 then some (.ifc .top) else bif g.beq 4 then some (.ifc .top) else bif g.beq 0 then some (.agg (Lib.pow10Tab.map λn => .int .u64 n)) else bif g.beq 7 then some (.agg (s8.map λn => .int .u8 n)) else bif g.beq 8 then some (.int .i64 m) else none
def pgS(m:Int):Pg:=⟨λf=>tab.find f,glS m,exB⟩
def nm:Nm:=aHg Tryz.prog num gnum
theorem n75:nm.f 75=30:=by kernel_rfl
theorem n76:nm.f 76=31:=by kernel_rfl
theorem n92:nm.f 92=171:=by kernel_rfl
theorem n93:nm.f 93=33:=by kernel_rfl
theorem aHw:oE Tryz.prog (nm.f 75):=by rw[n75];exact⟨Tryz.f30,Tryz.func30,by kernel_rfl,of_decide_eq_true (by kernel_rfl)⟩
theorem aHv:oE Tryz.prog (nm.f 76):=by rw[n76];exact⟨Tryz.f31,Tryz.func31,by kernel_rfl,of_decide_eq_true (by kernel_rfl)⟩
theorem aHu:oE Tryz.prog (nm.f 92):=by rw[n92];exact⟨Tryz.f171,Tryz.func171,by kernel_rfl,of_decide_eq_true (by kernel_rfl)⟩
theorem aHt:oE Tryz.prog (nm.f 93):=by rw[n93];exact⟨Tryz.f33,Tryz.func33,by kernel_rfl,of_decide_eq_true (by kernel_rfl)⟩
theorem aAC(m:Int):cW Tryz.prog nm (glS m) gnum ⟨λf' avs kb h=>if f'=93 then lT avs kb h else none,λ_ _ _ _=>none⟩:=by refine YA aHt 0 rfl ?_;intro n h0 h1 w hw;obtain⟨T,fr,ht⟩:=hw;have ht':w.heap[0]?=some (.cells (Lib.pow10Tab.map λz=>Value.int .u64 z).toArray T fr):=ht;rw[n93];refine(Tryz.strconv_Itoa n (by omega) h1 w ht').mono ?_;rintro e w' ⟨rfl,k,os,rfl⟩;exact⟨rfl,Lib.below_grow _ w (Nat.le_refl _) k os⟩
theorem GD(s:List UInt8):((⟨s.toArray⟩:ByteArray).data.toList)=s:=by simp
theorem WD(s:List UInt8):(⟨s.toArray⟩:ByteArray).size=s.length:=by simp[ByteArray.size]
theorem aBz(m:Int):cW Tryz.prog nm (glS m) gnum ⟨λf' avs kb h=>if f'=92 then lU avs kb h else none,λ_ _ _ _=>none⟩:=by
 refine YU aHu 3 4 rfl rfl ?_ ?_ ?_;intro s hs v hv w;rw[n92];refine(Tryz.strconv_Atoi_ok ⟨s.toArray⟩ (by rw[WD];omega) v (by rw[GD];exact hv) w).mono ?_;rintro e w' ⟨rfl,hw⟩;refine⟨rfl,?_⟩;rcases hw with rfl|⟨t,rfl⟩
 exact RowKit.Below.refl _ _;exact Lib.bytesWorld_below _ _ _;intro s hs hv1 hv2 w te pe hc;rw[n92];refine(Tryz.strconv_Atoi_bad ⟨s.toArray⟩ (by rw[WD];omega) (by rw[GD];exact hv1) (by rw[GD];exact hv2) _ w hc (.inr ⟨te,pe,rfl⟩)).mono ?_;rintro e w' ⟨N,rfl,_,_,hb⟩;exact⟨_,_,rfl,hb⟩;intro s hs hv w te pe hc;rw[n92];refine(Tryz.strconv_Atoi_range ⟨s.toArray⟩ (by rw[WD];omega) (by rw[GD];exact hv) _ w hc (.inr ⟨te,pe,rfl⟩)).mono ?_;rintro e w' ⟨N,rfl,_,_,hb⟩;rw[GD];exact⟨_,_,rfl,hb⟩
theorem sortS(m:Int):cW Tryz.prog nm (glS m) gnum ⟨λf' avs kb h=>if f'=75 then oW avs kb h else none,λ_ _ _ _=>none⟩:=by refine WG aHw ?_ ?_;intro blk off cap zs w hH hb hz;rw[n75];refine(Tryz.slices_Sort_int blk off cap zs w hH hb (by omega)).mono ?_;rintro e w' ⟨rfl,n,os,rfl⟩;exact⟨rfl,n,os,by rw[GH]⟩;intro p cap w;rw[n75];exact Tryz.slices_Sort_int_none p cap w
theorem aBf(m:Int):cW Tryz.prog nm (glS m) gnum ⟨λf' avs kb h=>if f'=76 then oX avs kb h else none,λ_ _ _ _=>none⟩:=by refine YO aHv ?_ ?_;intro blk off cap zs w hH hz hc;rw[n76];refine(Tryz.slices_Compact_int blk off cap zs w hH (by omega) hc).mono ?_;rintro e w' ⟨rfl,q,rfl⟩;rw[BV];exact⟨rfl,q,rfl⟩;intro p cap w;rw[n76];exact Tryz.slices_Compact_int_empty p cap w
theorem X4:nm.f 522=345:=by kernel_rfl
theorem aAL:oE Tryz.prog (nm.f 522):=by rw[X4];exact⟨Tryz.f345,Tryz.func345,by kernel_rfl,of_decide_eq_true (by kernel_rfl)⟩
theorem aAe:nm.f 455=277:=by kernel_rfl
theorem aAK:oE Tryz.prog (nm.f 455):=by rw[aAe];exact⟨Tryz.f277,Tryz.func277,by kernel_rfl,of_decide_eq_true (by kernel_rfl)⟩
theorem nSo:nm.f 401=205:=by kernel_rfl
theorem nCl:nm.f 442=260:=by kernel_rfl
theorem aHs:oE Tryz.prog (nm.f 401):=by rw[nSo];exact⟨Tryz.f205,Tryz.func205,by kernel_rfl,of_decide_eq_true (by kernel_rfl)⟩
theorem aAA(m:Int):cW Tryz.prog nm (glS m) gnum ⟨λf' avs kb h=>if f'=522 then wT avs kb h else none,λ_ _ _ _=>none⟩:=by refine X9 522 aAL ?_ ?_;intro a c sep w;rw[X4];exact Any.strings_Join_none Tryz.lays156 Tryz.joinX a c sep w;intro bk o c xs sep w h1 h2 h3 h4 h5;rw[X4];exact Any.strings_Join Tryz.lays156 Tryz.joinX bk o c xs sep w h1 h2 h3 h4 h5
theorem aHy(m:Int):cW Tryz.prog nm (glS m) gnum ⟨λf' avs kb h=>if f'=455 then DS avs kb h else none,λ_ _ _ _=>none⟩:=by refine aBa 455 8 m rfl aAK ?_;intro s sep w hs hm;rw[aAe];exact aHz m s sep w hs hm
theorem J9(m:Int):cW Tryz.prog nm (glS m) gnum ⟨λf' avs kb h=>if f'=401 then nS 442 avs kb h else none,λ_ _ _ _=>none⟩:=by refine GF 401 442 9 aHs ?_;intro Bm b es clock l w h1 h2 h3 h4 h5 h6 h7;rw[nSo,nCl];exact KA Bm b es clock l w h1 h2 h3 h4 h5 h6 h7
theorem exS(m:Int):∀f g,exB f=some g->cW Tryz.prog nm (glS m) gnum ⟨λf' avs kb h=>if f'=f then g avs kb h else none,λ_ _ _ _=>none⟩:=by
 intro f g h;unfold exB at h;cases h1:f.beq 92 with
 |true=>rw[h1]at h;cases h;obtain rfl:=Nat.eq_of_beq_eq_true h1;exact aBz m
 |false=>
  cases h2:f.beq 93 with
  |true=>rw[h1,h2]at h;cases h;obtain rfl:=Nat.eq_of_beq_eq_true h2;exact aAC m
  |false=>
   cases h3:f.beq 75 with
   |true=>rw[h1,h2,h3]at h;cases h;obtain rfl:=Nat.eq_of_beq_eq_true h3;exact sortS m
   |false=>
    cases h4:f.beq 76 with
    |true=>rw[h1,h2,h3,h4]at h;cases h;obtain rfl:=Nat.eq_of_beq_eq_true h4;exact aBf m
    |false=>
     cases h5:f.beq 522 with
     |true=>rw[h1,h2,h3,h4,h5]at h;cases h;obtain rfl:=Nat.eq_of_beq_eq_true h5;exact aAA m
     |false=>
      cases h6:f.beq 455 with
      |true=>rw[h1,h2,h3,h4,h5,h6]at h;cases h;obtain rfl:=Nat.eq_of_beq_eq_true h6;exact aHy m
      |false=>
       cases h7:f.beq 401 with
       |true=>rw[h1,h2,h3,h4,h5,h6,h7]at h;cases h;obtain rfl:=Nat.eq_of_beq_eq_true h7;exact J9 m
       |false=>rw[h1,h2,h3,h4,h5,h6,h7]at h;cases h
theorem fitS(m:Int):J2 Tryz.prog nm gnum (pgS m):=fitP_of fits (exS m) (λ_ _ _ _=>Iff.rfl)
end Go.Proofs
end
namespace Go.Tev
section
def aAD(op:List UInt8):Bool:=decide (op=[108,116])||decide (op=[108,101])||decide (op=[103,116])||decide (op=[103,101])||decide (op=[101,113])||decide (op=[110,101])
def aBI:List Bool->Bool
 |[_,b,c]=>b&&c
 |_=>false
def HS(op:List UInt8)(kids:List Bool):Bool:=
 if aAD op then decide ((kids.length:Int)=2)
 else if decide (op=[115,101,108,101,99,116]) then aBI kids
 else match gX op with
  |none=>false
  |some p=>decide (p.result=[98,111,111,108])&&decide ((p.params.length:Int)=(kids.length:Int)) && !kids.any (λb=>b==false)
theorem x4(l:List Bool):Tev.treeL (l.map AV.bool)=true:=bA (f:=AV.bool) (λ_=>rfl) l
theorem AO(l:List (List UInt8)):Tev.treeL (l.map AV.str)=true:=bA (f:=AV.str) (λ_=>rfl) l
attribute [go_sem] x4 AO
section
variable{pg:Pg}
def KT(op:List UInt8):Bool:=decide (op=[99,111,110,115,116])||decide (op=[116,114,117,116,104])
def Z5(l:List Bool)(a:Int):Bool:=decide (0<=a)&&(decide (a<(l.length:Int))&&(l[a.toNat]?).getD false)
def Z1(l:List Bool)(s:aE):Bool:=if KT s.op.bs then decide (s.num=0)||decide (s.num=1) else HS s.op.bs (s.args.es.map (Z5 l))
def C6(l:List Bool):List aE->List Bool
 |[]=>l
 |s::r=>C6 (l++[Z1 l s]) r
def C5(code:List aE)(args:List Bool):Bool:=(C6 args code).getLast?.getD false
def xZ(h:Hp)(ks:List Nat)(v:AV)(es:List Bool):Prop:=∃k∈ks,Own h k 1 false v (es.map AV.bool)
theorem xZ.mono{h h':Hp}{ks:List Nat}{v:AV}{es:List Bool}(o:xZ h ks v es)(hh:∀k∈ks,h'.get k=h.get k):xZ h' ks v es:=by obtain⟨k,hk,o⟩:=o;exact⟨k,hk,o.mono (hh k hk)⟩
theorem mH:∀(l:List Bool),aW 1 false (l.map AV.bool)=some (l.map AV.bool)
 |[]=>rfl
 |x::r=>by have ih:=mH r;rw[List.map_cons,aW,ih];rfl
theorem xZ.at{h:Hp}{ks:List Nat}{v:AV}{es:List Bool}(o:xZ h ks v es){n:Int}(h0:0<=n)(h1:n<es.length):∃k e,v = .rf k e 0 es.length es.length/\h.get k=some (e,.blk (es.map AV.bool) 1 false false false)/\k∈ks:=by
 obtain⟨k,hk,⟨he,nl,cl,rfl,hc⟩|⟨e,cs,rfl,hg,hu⟩⟩:=o;have:es=[]:=by simpa using he
 subst this;simp at h1;omega;rw[mH]at hu;cases hu;exact⟨k,e,by simp,hg,hk⟩
theorem xZ.len{h:Hp}{ks:List Nat}{v:AV}{es:List Bool}(o:xZ h ks v es)(kb s:Nat)(h':Hp)(Q:AV->Eff->Prop)(t:Tok Q):XO pg kb (.len 1) s h' [v] Q t=Q (.int .i64 es.length) (.pat [] []):=by
 obtain⟨k,hk,⟨he,nl,cl,rfl,hc⟩|⟨e,cs,rfl,hg,hu⟩⟩:=o;have:es=[]:=by simpa using he
 subst this;simp only[go_sem,seval];rw[d7];simp only[go_sem,seval]
theorem xZ.flen{h:Hp}{ks:List Nat}{v:AV}{es:List Bool}(o:xZ h ks v es)(h':Hp):yY h' 1 [v]=some (.int .i64 es.length,.pat [] []):=by
 obtain⟨k,hk,⟨he,nl,cl,rfl,hc⟩|⟨e,cs,rfl,hg,hu⟩⟩:=o;have:es=[]:=by simpa using he
 subst this;rfl;rw[d7];rfl
end
end
section
def Z3(vals:List Typ)(v:Int):Bool:=decide (0<=v)&&(decide (v<(vals.length:Int))&&((vals[v.toNat]?).map λt=>decide (t.elem.bs=[98,111,111,108])).getD false)
def ifT:List Bool->Bool
 |[a,b]=>a&&b
 |_=>false
def aBK(fn:List aE):List Bool->Bool
 |[a,b]=>a&&C5 fn [true,b]
 |_=>false
def WC(vals:List Typ)(op:List UInt8)(num value:Int)(fn:List aE)(kids:List Bool):Bool:=
 if decide (op=[99,111,110,115,116]) then decide (num=0)||decide (num=1)
 else if decide (op=[108,105,110,101,97,114]) then false
 else if decide (op=[114,101,97,100]) then Z3 vals value
 else if decide (op=[105,102]) then ifT kids
 else if decide (op=[114,101,100,117,99,101]) then aBK fn kids
 else if decide (op=[99,111,100,101]) then C5 fn kids
 else HS op kids
mutual
def J5(vals:List Typ):aA->Bool
 |.mk op num value _ _ _ _ fn _ kids _=>WC vals op.bs num value fn.es (C7 vals kids)
def C7(vals:List Typ):List aA->List Bool
 |[]=>[]
 |p::r=>J5 vals p::C7 vals r
end
theorem Own.flen{h:Hp}{k esz:Nat}{ag:Bool}{v:AV}{es:List AV}(o:Own h k esz ag v es)(h':Hp):yY h' 1 [v]=some (.int .i64 es.length,.pat [] []):=by
 rcases o with ⟨rfl,nl,cl,rfl,hc⟩|⟨e,cs,rfl,hg,hu⟩
 rfl;rfl
section
variable{pg:Pg}
end
end
end Go.Tev
