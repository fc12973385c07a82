import Derived.Test.YtdglfamcgppilaaGreatDoorVAR
import Derived.Sort.KeysCollected
import Derived.WideShapes
import Derived.KernelRfl
import Derived.Shelf.Strings.OnBuilder
import Derived.Shelf.Strings.Cut
import Derived.Shelf.LaysM
import Derived.Shelf.SlIter.Nil
import Derived.Shelf.SortM.Plain
import Derived.Shelf.SortM.SortNone
import Derived.Test.YtdglfamcgppilaaGreatDoorProg
import Derived.Shelf.Strconv.Itoa3
import Derived.Shelf.LaysC
import Derived.Shelf.Strconv.AtoiAll
import Derived.Shelf.Sort.Plain
import Derived.Shelf.Slices.CompactI
import Derived.Shelf.Slices.In.SortNone
import Derived.Ground.Names2Prog
import Derived.Test.YtdglfamcgppilaaGreatDoorVAN
import Derived.Lib.AppendIntMem
set_option linter.all false
namespace Go.Tev
section
open Go.RowKit Go.Sort Go.MapKept Go.Proofs
def leS:List UInt8->List UInt8->Bool
 |[],_=>true
 |_::_,[]=>false
 |a::r,b::s=>bif a.toNat.blt b.toNat then true else bif b.toNat.blt a.toNat then false else leS r s
theorem JH:∀a b:List UInt8,leS a b=decide (a<=b)
 |[],b=>by simp[leS]
 |a::r,[]=>by simp[leS]
 |a::r,b::s=>by
  have hlt:∀x y:UInt8,x.toNat.blt y.toNat=decide (x<y):=λx y=>by rw[Bool.eq_iff_iff,Nat.blt_eq,aQ];rfl
  rw[leS,JH r s,hlt,hlt];by_cases h1:a<b;simp[h1,List.cons_le_cons_iff];by_cases h2:b<a;have h3:a≠b:=λe=>by subst e;exact h1 h2
  simp[h1,h2,h3,List.cons_le_cons_iff];have h3:a=b:=by have e1:¬a.toNat<b.toNat:=h1;have e2:¬b.toNat<a.toNat:=h2;exact UInt8.toNat_inj.1 (by omega)
  subst h3;simp[h1,List.cons_le_cons_iff]
def JQ(x:List UInt8):List (List UInt8)->List (List UInt8)
 |[]=>[x]
 |y::r=>bif leS x y then x::y::r else y::JQ x r
def sortS:List (List UInt8)->List (List UInt8)
 |[]=>[]
 |x::r=>JQ x (sortS r)
theorem tP(x:List UInt8):∀l,(JQ x l).Perm (x::l)
 |[]=>List.Perm.refl _
 |y::r=>by rw[JQ];cases leS x y;exact((tP x r).cons y).trans (List.Perm.swap x y r);exact List.Perm.refl _
theorem w9:∀l,(sortS l).Perm l
 |[]=>List.Perm.refl _
 |x::r=>(tP x _).trans ((w9 r).cons x)
theorem u2(x:List UInt8):∀l:List (List UInt8),l.Pairwise (λa b=>a<=b)->(JQ x l).Pairwise λa b=>a<=b
 |[],_=>by simp[JQ]
 |y::r,h=>by rw[List.pairwise_cons]at h;rw[JQ];cases hd:leS x y;rw[JH]at hd;have hxy:=aK hd;simp only[cond_false,List.pairwise_cons];refine⟨?_,u2 x r h.2⟩;intro a ha;rcases List.mem_cons.1 ((tP x r).subset ha) with rfl|ha;exact(List.le_total y a).resolve_right hxy;exact h.1 a ha;rw[JH]at hd;have hxy:=aG hd;simp only[cond_true,List.pairwise_cons];refine⟨?_,h.1,h.2⟩;intro a ha;rcases List.mem_cons.1 ha with rfl|ha;exact hxy;exact List.le_trans hxy (h.1 a ha)
theorem rN:∀l:List (List UInt8),(sortS l).Pairwise λa b=>a<=b
 |[]=>List.Pairwise.nil
 |x::r=>u2 x _ (rN r)
theorem PS(l:List (List UInt8)):sortS l=l.mergeSort leB:=by
 have tr:∀a b c:List UInt8,leB a b=true->leB b c=true->leB a c=true:=λa b c h1 h2=>by simp only[leB,aQ]at *;exact List.le_trans h1 h2
 have to:∀a b:List UInt8,(leB a b||leB b a)=true:=λa b=>by simp only[leB,Bool.or_eq_true,aQ];exact List.le_total a b
 refine List.Perm.eq_of_pairwise (le:=λa b=>leB a b=true) (λa b _ _ h1 h2=>?_) ?_ (List.pairwise_mergeSort tr to l) ((w9 l).trans (List.mergeSort_perm l leB).symm);simp only[leB,aQ]at h1 h2;exact List.le_antisymm h1 h2;exact(rN l).imp λh=>by simp only[leB,aQ];exact h
def LZ:List (AV×AV)->Option (List (List UInt8))
 |[]=>some []
 |(.str s,_)::r=>(LZ r).map (s :: ·)
 |_=>none
def MS:List (List UInt8)->Bool
 |[]=>true
 |x::r=>r.all (λy => !eqS x y)&&MS r
def MT:List Nat->Bool
 |[]=>true
 |x::r=>r.all (λy => !(x==y))&&MT r
theorem vD:∀{l:List (List UInt8)},MS l=true->l.Nodup
 |[],_=>by simp
 |x::r,h=>by simp only[MS,aD,cO,iB,tY,nL]at h;rw[List.nodup_cons];exact⟨λhm=>h.1 x hm rfl,vD h.2⟩
theorem vE:∀{l:List Nat},MT l=true->l.Nodup
 |[],_=>by simp
 |x::r,h=>by simp only[MT,aD,cO,iB,beq_eq_false_iff_ne]at h;rw[List.nodup_cons];exact⟨λhm=>h.1 x hm rfl,vE h.2⟩
def okK(l:List (List UInt8))(bs:List Nat)(ck:Nat):Bool:=MS l&&MT bs&&bs.all (λb=>b.blt ck)&&l.length.ble 1000&&l.all λs=>s.length.ble 1000
def nE(G:Nat)(args:List AV)(_:Nat)(h:Hp):Option (AV×Hp):=
 match args with
 |[.fn g [.pt kp ep 0]]=>
  if g=G then
   match h.get kp with
   |some (e1,.blk [.mp km em] _ _ true _)=>
    if e1=ep then
     match h.get km with
     |some (e2,.mpo es bs ck)=>
      if e2=em then
       match LZ es with
       |some l=>bif okK l bs ck then some (.sl l.isEmpty ((sortS l).map .str) false,h) else none
       |none=>none
      else none
     |_=>none
    else none
   |_=>none
  else none
 |_=>none
theorem AZ:∀{es:List (AV×AV)}{l:List (List UInt8)},LZ es=some l->l.length=es.length/\∀(i:Nat)(x:AV×AV),es[i]?=some x->∃s,x.1 = .str s/\l[i]?=some s
 |[],l,h=>by cases h;exact⟨rfl,λi x hx=>by simp at hx⟩
 |(k,v)::r,l,h=>by
  unfold LZ at h;split at h;rename_i heq;cases heq;rename_i s u r' heq;cases heq;simp only[iC]at h;obtain⟨l',h1,rfl⟩:=h;obtain⟨h2,h3⟩:=AZ h1;refine⟨by simp[h2],λi x hx=>?_⟩;cases i with
  |zero=>simp at hx;subst hx;exact⟨s,rfl,rfl⟩
  |succ i=>exact h3 i x (by simpa using hx)
  cases h
section
variable{P:Program}{num:Nm}{gl:Nat->Option AV}{gnum:Nat->Nat}{Fb:Nat->Prop}{B0:Nat}{ρ : Rho}{w w':World}{O:Nat->Prop}{h:Hp}
theorem PR(F G:Nat)(T:TypeId)(hfn:sZ P (num F))
  (hc:∀(Bm b:Nat)(es:Array MapEntry)(clock:Nat)(l:List (List UInt8))(w:World),w.cell? ⟨Bm,0,none⟩=some (.map (some b))->Bm<w.heap.size->w.heap[b]?=some (.map es clock)->Stamped es clock ->
   es.toList.map (·.key)=l.map Go.Proofs.encStr->l.length<=1000->(∀s∈l,s.length<=1000) ->
   Calls P (num F) #[.func (.func (num G)) #[] #[.pointer (some ⟨Bm,0,none⟩)]] w λe w'=>∃(v:Value)(ss:List (List UInt8)),e = .returned v/\ss.Perm l /\
    w'.ownsRow w.heap.size T 1 v ss.length ((ss.mergeSort leB).map Go.Proofs.encStr)/\(v = .slice none 0 0↔ss=[])/\RowKit.Below w.heap.size w w') :
  fB P num gl gnum ⟨λf' avs kb h=>if f'=F then nE G avs kb h else none,λ_ _ _ _=>none⟩:=by
 intro f avs kb h r h' hr;dsimp only at hr;split at hr
 case isFalse=>cases hr
 rename_i hf;subst hf;refine⟨hfn,?_⟩;intro Fb B0 ρ O w vs H hG hv;unfold nE at hr;split at hr
 case h_2=>cases hr
 rename_i g kp ep;split at hr
 case isFalse=>cases hr
 rename_i hg0;subst hg0;split at hr
 case h_2=>cases hr
 rename_i e1 km em esz ag fz hkp;split at hr
 case isFalse=>cases hr
 rename_i he1;subst he1;split at hr
 case h_2=>cases hr
 rename_i e2 es bs ck hkm;split at hr
 case isFalse=>cases hr
 rename_i he2;subst he2;split at hr
 case h_2=>cases hr
 rename_i l hl;cases hok:okK l bs ck with
 |false=>rw[hok]at hr;cases hr
 |true=>
 rw[hok]at hr;cases hr;simp only[okK,aD,cO,Nat.blt_eq,Nat.ble_eq]at hok;obtain⟨⟨⟨⟨k1,k2⟩,k3⟩,k4⟩,k5⟩:=hok
 obtain⟨a,rfl,ha⟩:∃a,vs=[a]/\Rv num ρ w (λb=>Fb b\/O b) (.fn g [.pt kp e1 0]) a:=by
  cases hv with
  |cons ha h2=>cases h2;exact⟨_,rfl,ha⟩
 obtain⟨L,c,T0,q1,q2,q3,q4,q5,q6,q7,q8,q9,q10⟩:=H.blk _ _ _ _ _ _ _ hkp;obtain⟨y,hy,hmy⟩:=q7 0 _ rfl;obtain⟨Lm,rfl,hLm⟩:=hmy.of_mp;obtain⟨Lm',cm,clock,p1,p2,⟨p3,p4,p5⟩,p6,p7,p8⟩:=H.mpo _ _ _ _ _ hkm;rw[hLm]at p1;cases p1;subst p4;have ha':a = .func (.func (num g)) #[] #[.pointer (some ⟨L.b,L.base+0,none⟩)]:=by
  cases ha with
  |fn _ _ vs hl0 hh=>
   have hs:vs.size=1:=by simpa using hl0.symm
   have h0:=hh 0 _ vs[0] rfl (by simp[hs]);obtain⟨L2,e0,hL2⟩:=h0.of_pt;rw[q1]at hL2;cases hL2;have:vs = #[vs[0]]:=by
    apply Array.ext;simp[hs];intro i h1 h2;have:i=0:=by omega
    subst this;rfl
   rw[this,e0]
 subst ha';have hb0:L.base=0:=L.hb (by rw[q2]);have hcell:w.cell? ⟨L.b,0,none⟩=some (.map (some Lm.b)):=by rw[hb0,Nat.zero_add]at hy;have hy':c[0]?=some (.map (some Lm.b)):=hy;simp[World.cell?,q4,hy']
 have hbl:L.b<w.heap.size:=by by_cases hlt:L.b<w.heap.size;exact hlt;simp[Array.getElem?_eq_none (Nat.le_of_not_lt hlt)]at q4
 obtain⟨l1,l2⟩:=AZ hl;have hkeys:cm.toList.map (·.key)=l.map Go.Proofs.encStr:=by
  apply List.ext_getElem?;intro i;rw[List.getElem?_map,List.getElem?_map];by_cases hi:i<es.length;have hci:i<cm.size:=by omega
  obtain⟨s,hs1,hs2⟩:=l2 i es[i] (by simp[hi]);have h1:=(p6 i es[i] cm[i] (by simp[hi]) (by simp[hci])).1;rw[hs1]at h1;rw[hs2];have:cm.toList[i]?=some cm[i]:=by simp[hci]
  rw[this];simp only[Option.map_some,aO];rw[h1.of_str];have h1:cm.toList[i]?=none:=by simp;omega
  have h2:l[i]?=none:=by simp;omega
  rw[h1,h2];rfl
 have hst:Stamped cm clock:=by refine⟨?_,?_,?_⟩;intro x hx;have:=k3 x.born (by rw[<-p5];exact List.mem_map_of_mem hx);exact this;rw[p5];exact vE k2;rw[hkeys];exact List.pairwise_map.2 ((vD k1).imp λh e=>h (encStr_inj e))
 rw[hb0,Nat.zero_add];refine(hc L.b Lm.b cm clock l w hcell hbl p2 hst hkeys k4 (λs hs=>k5 s hs)).mono ?_;rintro e w' ⟨v,ss,rfl,hperm,hrow,hnil,hbe⟩;obtain⟨ev,H'⟩:=j2 H hbe;refine⟨v,ρ,O,rfl,ev,H',?_⟩;have hsort:ss.mergeSort leB=sortS l:=by rw[PS];exact mergeSort_of_perm hperm
 by_cases hl0:l=[]
 subst hl0;have:ss=[]:=hperm.eq_nil;rw[hnil.2 this];exact .nsl _;have hss:ss≠[]:=λe=>hl0 (by rw[e]at hperm;exact hperm.symm.eq_nil);rcases hrow.2 with ⟨rfl,hz⟩|⟨gb,cap,cur,rfl,hbase,hgb,r1,r2,r3,r4⟩
 exact absurd (iE hz) hss;have hlen:ss.length=(sortS l).length:=by rw[<-hsort,List.length_mergeSort]
 have hie:l.isEmpty=false:=by cases l;exact absurd rfl hl0;rfl
 rw[hie];have hgl:gb<w'.heap.size:=(kY.1 hgb).1;have hv':(Value.slice (some ⟨gb,0,none⟩) ss.length cap) = .slice (some ⟨gb,0,none⟩) ((sortS l).map AV.str).length cap:=by rw[bD,hlen]
 rw[hv'];have hcur:∀n,n<(sortS l).length->cur[n]?=((sortS l)[n]?).map Go.Proofs.encStr:=by
  intro n hn;have:(cur.toList.take (ss.length*1))[n]?=((ss.mergeSort leB).map Go.Proofs.encStr)[n]?:=by rw[r4]
  rw[hsort,List.getElem?_map,List.getElem?_take,if_pos (by omega)]at this;rw[<-this];simp
 refine .sl _ false gb 0 cap 1 (λn=>(cur[n]?).getD undef) (by rw[bD,<-hlen];exact r1) (by intro h;cases h) ?_ ?_ ?_ ?_ none (λ_=>rfl);intro _;refine⟨λhF=>?_,hgl⟩;rcases hF with hF|hF;have:=H.fbl _ hF;have:=H.le;omega;have:=(H.own _ hF).2;omega;intro i e he;rw[List.getElem?_map,iC]at he;obtain⟨s,_,rfl⟩:=he;rfl;intro n hn;rw[bD,Nat.mul_one]at hn;have hcl:n<cur.size:=by rw[r3];omega
 rw[Nat.zero_add];simp[World.cell?,hgb,hcl];intro i e j x he hx;rw[List.getElem?_map,iC]at he;obtain⟨s,hs,rfl⟩:=he;have hj:j=0:=by
  cases j with
  |zero=>rfl
  |succ j=>simp[AV.cells]at hx
 subst hj;simp[AV.cells]at hx;subst hx;have hi:i<(sortS l).length:=(bS.1 hs).1;rw[Nat.mul_one,Nat.add_zero,hcur i hi,hs];exact .str _
end
end
end Go.Tev
section
namespace Go.Proofs
open Go.Shelf Go.RowKit Go.Maps Go.Sort
def Tryz.lays156_ren:Go.Shelf.Ren:=⟨λ|156=>359|165=>374|166=>375|169=>376|240=>381|241=>382|276=>383|277=>384|n=>n,λ|31=>43|9=>9|3=>3|4=>4|0=>0|20=>20|72=>389|76=>225|70=>387|37=>227|75=>224|127=>353|164=>397|5=>5|80=>391|n=>n,λ|n=>n⟩
theorem aF{α : Type}{x:Option α}{a b : α}(h:x=some a)(k:a=b:=by kernel_rfl):x=some b:=h.trans (congrArg some k)
theorem Tryz.lays156:Go.Proofs.Lays.n156 Tryz.prog Tryz.lays156_ren:={
 mixed:=by kernel_rfl
 f156:=aF Tryz.func359
 f165:=aF Tryz.func374
 f166:=aF Tryz.func375
 f169:=aF Tryz.func376
 f240:=aF Tryz.func381
 f241:=aF Tryz.func382
 f276:=aF Tryz.func383
 f277:=aF Tryz.func384
 t0:=Tryz.underlying0
 a0:=Tryz.isAgg0
 z0:=Tryz.sizeOf0
 v0:=Tryz.zeroValue0
 t3:=Tryz.underlying3
 a3:=Tryz.isAgg3
 z3:=Tryz.sizeOf3
 v3:=Tryz.zeroValue3
 t4:=Tryz.underlying4
 a4:=Tryz.isAgg4
 z4:=Tryz.sizeOf4
 v4:=Tryz.zeroValue4
 t9:=Tryz.underlying9
 a9:=Tryz.isAgg9
 z9:=Tryz.sizeOf9
 v9:=Tryz.zeroValue9
 t20:=Tryz.underlying20
 a20:=Tryz.isAgg20
 z20:=Tryz.sizeOf20
 v20:=Tryz.zeroValue20
 t31:=Tryz.underlying43
 a31:=Tryz.isAgg43
 z31:=Tryz.sizeOf43
 v31:=Tryz.zeroValue43
 t37:=Tryz.underlying227
 a37:=Tryz.isAgg227
 z37:=Tryz.sizeOf227
 v37:=Tryz.zeroValue227
 t70:=Tryz.underlying387
 a70:=Tryz.isAgg387
 z70:=Tryz.sizeOf387
 v70:=Tryz.zeroValue387
 t72:=Tryz.underlying389
 a72:=Tryz.isAgg389
 z72:=Tryz.sizeOf389
 v72:=Tryz.zeroValue389
 t75:=Tryz.underlying224
 a75:=Tryz.isAgg224
 z75:=Tryz.sizeOf224
 v75:=Tryz.zeroValue224
 t76:=Tryz.underlying225
 a76:=Tryz.isAgg225
 z76:=Tryz.sizeOf225
 v76:=Tryz.zeroValue225
 t127:=Tryz.underlying353
 a127:=Tryz.isAgg353
 z127:=Tryz.sizeOf353
 v127:=Tryz.zeroValue353
 t164:=Tryz.underlying397
 a164:=Tryz.isAgg397
 z164:=Tryz.sizeOf397
 v164:=Tryz.zeroValue397}
def Tryz.laysM145_ren:Go.Shelf.Ren:=⟨λ|145=>285|220=>314|219=>345|217=>329|225=>301|224=>300|267=>369|266=>362|314=>379|n=>n,λ|9=>9|4=>4|59=>299|3=>3|5=>5|46=>110|146=>395|51=>157|n=>n,λ|1=>6|n=>n⟩
theorem Tryz.laysM145:Go.Proofs.LaysM.n145 Tryz.prog Tryz.laysM145_ren:={
 mixed:=by kernel_rfl
 f145:=aF Tryz.func285
 f217:=aF Tryz.func329
 f219:=aF Tryz.func345
 f220:=aF Tryz.func314
 f224:=aF Tryz.func300
 f225:=aF Tryz.func301
 f266:=aF Tryz.func362
 f267:=aF Tryz.func369
 f314:=aF Tryz.func379
 t3:=Tryz.underlying3
 a3:=Tryz.isAgg3
 z3:=Tryz.sizeOf3
 v3:=Tryz.zeroValue3
 t4:=Tryz.underlying4
 a4:=Tryz.isAgg4
 z4:=Tryz.sizeOf4
 v4:=Tryz.zeroValue4
 t5:=Tryz.underlying5
 a5:=Tryz.isAgg5
 z5:=Tryz.sizeOf5
 v5:=Tryz.zeroValue5
 t9:=Tryz.underlying9
 a9:=Tryz.isAgg9
 z9:=Tryz.sizeOf9
 v9:=Tryz.zeroValue9
 t46:=Tryz.underlying110
 a46:=Tryz.isAgg110
 z46:=Tryz.sizeOf110
 v46:=Tryz.zeroValue110
 t51:=Tryz.underlying157
 a51:=Tryz.isAgg157
 z51:=Tryz.sizeOf157
 v51:=Tryz.zeroValue157
 t59:=Tryz.underlying299
 a59:=Tryz.isAgg299
 z59:=Tryz.sizeOf299
 v59:=Tryz.zeroValue299
 t146:=Tryz.underlying395
 a146:=Tryz.isAgg395
 z146:=Tryz.sizeOf395
 v146:=Tryz.zeroValue395
 g1:=by kernel_rfl
 i3:=by kernel_rfl
 i4:=by kernel_rfl
 i5:=by kernel_rfl
 i9:=by kernel_rfl
 i46:=by kernel_rfl
 i51:=by kernel_rfl
 i59:=by kernel_rfl
 i146:=by kernel_rfl
 m1:=by kernel_rfl
 s1_3:=λw h=>Go.Proofs.cell_of_shapedOpen_int (zero := #[.int .i64 0]) (t:=3) h (of_decide_eq_true (by kernel_rfl)) (by kernel_rfl) rfl (by kernel_rfl) (by kernel_rfl) Tryz.underlying3}
def Tryz.keysK_ren:Go.Shelf.Ren:=⟨λ|7=>216|10=>272|n=>n,λ|23=>63|26=>9|3=>3|28=>254|0=>0|27=>253|33=>84|4=>4|n=>n,λ|n=>n⟩
theorem Tryz.keysK:Go.Proofs.SlLaysZ.n7 Tryz.prog Tryz.keysK_ren:={
 mixed:=by kernel_rfl
 f7:=⟨Tryz.f216.name,by decide,aF Tryz.func216⟩
 f10:=⟨Tryz.f272.name,by decide,aF Tryz.func272⟩
 t0:=Tryz.underlying0
 a0:=Tryz.isAgg0
 z0:=Tryz.sizeOf0
 v0:=Tryz.zeroValue0
 t4:=Tryz.underlying4
 a4:=Tryz.isAgg4
 z4:=Tryz.sizeOf4
 v4:=Tryz.zeroValue4
 t23:=Tryz.underlying63
 a23:=Tryz.isAgg63
 z23:=Tryz.sizeOf63
 v23:=Tryz.zeroValue63
 t26:=Tryz.underlying9
 a26:=Tryz.isAgg9
 z26:=Tryz.sizeOf9
 v26:=Tryz.zeroValue9
 t27:=Tryz.underlying253
 a27:=Tryz.isAgg253
 z27:=Tryz.sizeOf253
 v27:=Tryz.zeroValue253
 t28:=Tryz.underlying254
 a28:=Tryz.isAgg254
 z28:=Tryz.sizeOf254
 v28:=Tryz.zeroValue254
 t33:=Tryz.underlying84
 a33:=Tryz.isAgg84
 z33:=Tryz.sizeOf84
 v33:=Tryz.zeroValue84}
def Tryz.sortedK_ren:Go.Shelf.Ren:=⟨λ|6=>215|8=>270|9=>271|11=>306|13=>54|12=>307|23=>109|24=>110|14=>332|15=>333|16=>334|17=>335|18=>336|19=>337|20=>338|21=>339|22=>340|25=>363|26=>179|27=>180|28=>364|29=>365|30=>366|31=>378|n=>n,λ|26=>9|28=>254|24=>43|0=>0|3=>3|37=>110|48=>157|50=>159|4=>4|40=>150|39=>149|45=>66|5=>5|9=>9|51=>212|55=>216|57=>259|58=>243|33=>84|n=>n,λ|n=>n⟩
theorem Tryz.sortedK:Go.Proofs.SlLaysZ.n6 Tryz.prog Tryz.sortedK_ren:={
 mixed:=by kernel_rfl
 f6:=⟨Tryz.f215.name,by decide,aF Tryz.func215⟩
 f8:=⟨Tryz.f270.name,by decide,aF Tryz.func270⟩
 f11:=⟨Tryz.f306.name,by decide,aF Tryz.func306⟩
 t0:=Tryz.underlying0
 a0:=Tryz.isAgg0
 z0:=Tryz.sizeOf0
 v0:=Tryz.zeroValue0
 t24:=Tryz.underlying43
 a24:=Tryz.isAgg43
 z24:=Tryz.sizeOf43
 v24:=Tryz.zeroValue43
 t26:=Tryz.underlying9
 a26:=Tryz.isAgg9
 z26:=Tryz.sizeOf9
 v26:=Tryz.zeroValue9
 t28:=Tryz.underlying254
 a28:=Tryz.isAgg254
 z28:=Tryz.sizeOf254
 v28:=Tryz.zeroValue254
 i26:=by kernel_rfl}
def Tryz.sortS_ren:Go.Shelf.Ren:=⟨λ|6=>271|8=>54|9=>307|19=>109|20=>110|21=>332|22=>333|23=>334|24=>335|25=>336|26=>337|27=>338|28=>339|29=>340|36=>363|31=>179|32=>180|37=>364|38=>365|39=>366|41=>378|n=>n,λ|27=>43|29=>9|3=>3|32=>110|26=>43|0=>0|44=>157|46=>159|4=>4|36=>150|35=>149|41=>66|5=>5|9=>9|53=>212|57=>216|63=>259|64=>243|n=>n,λ|n=>n⟩
theorem Tryz.sortS:Go.Proofs.SlLaysM.n6 Tryz.prog Tryz.sortS_ren:={
 mixed:=by kernel_rfl
 f6:=⟨Tryz.f271.name,by decide,aF Tryz.func271⟩
 f8:=aF Tryz.func54
 f9:=⟨Tryz.f307.name,by decide,aF Tryz.func307⟩
 f19:=aF Tryz.func109
 f20:=aF Tryz.func110
 f21:=⟨Tryz.f332.name,by decide,aF Tryz.func332⟩
 f22:=⟨Tryz.f333.name,by decide,aF Tryz.func333⟩
 f23:=⟨Tryz.f334.name,by decide,aF Tryz.func334⟩
 f24:=⟨Tryz.f335.name,by decide,aF Tryz.func335⟩
 f25:=⟨Tryz.f336.name,by decide,aF Tryz.func336⟩
 f26:=⟨Tryz.f337.name,by decide,aF Tryz.func337⟩
 f27:=⟨Tryz.f338.name,by decide,aF Tryz.func338⟩
 f28:=⟨Tryz.f339.name,by decide,aF Tryz.func339⟩
 f29:=⟨Tryz.f340.name,by decide,aF Tryz.func340⟩
 f31:=aF Tryz.func179
 f32:=aF Tryz.func180
 f36:=⟨Tryz.f363.name,by decide,aF Tryz.func363⟩
 f37:=⟨Tryz.f364.name,by decide,aF Tryz.func364⟩
 f38:=⟨Tryz.f365.name,by decide,aF Tryz.func365⟩
 f39:=⟨Tryz.f366.name,by decide,aF Tryz.func366⟩
 f41:=⟨Tryz.f378.name,by decide,aF Tryz.func378⟩
 t0:=Tryz.underlying0
 a0:=Tryz.isAgg0
 z0:=Tryz.sizeOf0
 v0:=Tryz.zeroValue0
 t3:=Tryz.underlying3
 a3:=Tryz.isAgg3
 z3:=Tryz.sizeOf3
 v3:=Tryz.zeroValue3
 t4:=Tryz.underlying4
 a4:=Tryz.isAgg4
 z4:=Tryz.sizeOf4
 v4:=Tryz.zeroValue4
 t5:=Tryz.underlying5
 a5:=Tryz.isAgg5
 z5:=Tryz.sizeOf5
 v5:=Tryz.zeroValue5
 t9:=Tryz.underlying9
 a9:=Tryz.isAgg9
 z9:=Tryz.sizeOf9
 v9:=Tryz.zeroValue9
 t26:=Tryz.underlying43
 a26:=Tryz.isAgg43
 z26:=Tryz.sizeOf43
 v26:=Tryz.zeroValue43
 t27:=Tryz.underlying43
 a27:=Tryz.isAgg43
 z27:=Tryz.sizeOf43
 v27:=Tryz.zeroValue43
 t29:=Tryz.underlying9
 a29:=Tryz.isAgg9
 z29:=Tryz.sizeOf9
 v29:=Tryz.zeroValue9
 t32:=Tryz.underlying110
 a32:=Tryz.isAgg110
 z32:=Tryz.sizeOf110
 v32:=Tryz.zeroValue110
 t35:=Tryz.underlying149
 a35:=Tryz.isAgg149
 z35:=Tryz.sizeOf149
 v35:=Tryz.zeroValue149
 t36:=Tryz.underlying150
 a36:=Tryz.isAgg150
 z36:=Tryz.sizeOf150
 v36:=Tryz.zeroValue150
 t41:=Tryz.underlying66
 a41:=Tryz.isAgg66
 z41:=Tryz.sizeOf66
 v41:=Tryz.zeroValue66
 t44:=Tryz.underlying157
 a44:=Tryz.isAgg157
 z44:=Tryz.sizeOf157
 v44:=Tryz.zeroValue157
 t46:=Tryz.underlying159
 a46:=Tryz.isAgg159
 z46:=Tryz.sizeOf159
 v46:=Tryz.zeroValue159
 t53:=Tryz.underlying212
 a53:=Tryz.isAgg212
 z53:=Tryz.sizeOf212
 v53:=Tryz.zeroValue212
 t57:=Tryz.underlying216
 a57:=Tryz.isAgg216
 z57:=Tryz.sizeOf216
 v57:=Tryz.zeroValue216
 t63:=Tryz.underlying259
 a63:=Tryz.isAgg259
 z63:=Tryz.sizeOf259
 v63:=Tryz.zeroValue259
 t64:=Tryz.underlying243
 a64:=Tryz.isAgg243
 z64:=Tryz.sizeOf243
 v64:=Tryz.zeroValue243}
theorem Tryz.joinX:Builder.Extra Tryz.prog Tryz.lays156_ren where
 sizeBuilder:=by kernel_rfl
 liesBuilder:=by kernel_rfl
 t5:=Tryz.underlying5
 a5:=Tryz.isAgg5
 z5:=Tryz.sizeOf5
 v5:=Tryz.zeroValue5
 infoByte:=by kernel_rfl
 cellsByte:=by kernel_rfl
 sizeByte:=by kernel_rfl
 neB5:=by decide
theorem IP(w:World):∀n,Below w.heap.size w (w.drewN n):=by intro n;exact⟨rfl,rfl,rfl,Nat.le_refl _,λ_ _=>rfl⟩
theorem aNy(m:Int)(s sep:ByteArray)(w:World)(hs:s.size<=1000000)(hm:w.cell? ⟨6,0,none⟩=some (.int .i64 m)) :
  Calls Tryz.prog 285 #[.string s,.string sep] w λe w'=>e = .returned (.tuple #[.string ⟨(Lib.cut s.data.toList sep.data.toList).1.toArray⟩,.string ⟨(Lib.cut s.data.toList sep.data.toList).2.1.toArray⟩,.bool (Lib.cut s.data.toList sep.data.toList).2.2])/\Below w.heap.size w w':=by
 refine(Any.strings_Cut (ρ:=Tryz.laysM145_ren) {Tryz.laysM145 with} s sep m w (by omega) hm).mono ?_;rintro e w' ⟨rfl,n,rfl⟩;exact⟨rfl,IP w n⟩
theorem aDp(m:Nat):AnyZ.SortsIn Tryz.prog Tryz.sortedK_ren Fence.wide m:=
 ⟨λblk off cap ss W hH hblk hsz=>callsIn_wide.2 (AnyM.slices_Sort_string Tryz.sortS blk off cap ss W hH hblk hsz),
  λp cap W=>callsIn_wide.2 (AnyM.slices_Sort_string_none Tryz.sortS p cap W)⟩
def zM(_:Value):Option (DataW Unit×List MemPlace):=some (.nil,[])
set_option maxRecDepth 100000 in
set_option maxHeartbeats 1000000 in
theorem TJ(Bm b:Nat)(es:Array MapEntry)(clock:Nat)(l:List (List UInt8))(w:World)(hm:w.cell? ⟨Bm,0,none⟩=some (.map (some b)))(hBm:Bm<w.heap.size)(hb:w.heap[b]?=some (.map es clock))(hst:MapKept.Stamped es clock)
  (hk:es.toList.map (·.key)=l.map encStr) (hl:l.length<=1000) (hs:∀s∈l,s.length<=1000) :
  Calls Tryz.prog 215 #[.func (.func 272) #[] #[.pointer (some ⟨Bm,0,none⟩)]] w λe w'=>∃(v:Value)(ss:List (List UInt8)),e = .returned v/\ss.Perm l /\
   w'.ownsRow w.heap.size 9 1 v ss.length ((ss.mergeSort leB).map encStr)/\(v = .slice none 0 0↔ss=[])/\Below w.heap.size w w':=by
 have hlen:es.size=l.length:=by have:=congrArg List.length hk;simpa using this
 have hkey:∀x∈es.toList,∃s,s∈l/\x.key=encStr s:=by
  intro x hx;have:x.key∈l.map encStr:=by rw[<-hk];exact List.mem_map_of_mem hx
  obtain⟨s,h1,h2⟩:=List.mem_map.1 this;exact⟨s,h1,h2.symm⟩
 have hko:∀s∈l,keyOf Tryz.prog 9 (encStr s)=some (.string s):=by intro s h;have:=hs s h;simp[keyOf,Tryz.underlying9,mapKey,encStr,ByteArray.size,maxLen];omega
 have hF:WideElems.Fit Tryz.prog 9 zM es clock:=by refine⟨by rw[hlen];simp only[maxLen];omega,hst,?_⟩;intro x hx;obtain⟨s,h1,h2⟩:=hkey x hx;exact⟨(.string s,.nil),by simp[WideElems.rd,h2,hko s h1,zM]⟩
 have hown:w.ownsMap Tryz.prog 9 zM b es.size (.map ((es.toList.map (WideElems.rg Tryz.prog 9 zM)).foldr DataW.insert [])):=⟨es,clock,hb,hF,Nat.le_refl _,rfl⟩
 have hperm:(strKeys (.map ((es.toList.map (WideElems.rg Tryz.prog 9 zM)).foldr DataW.insert []):DataW Unit)).Perm l:=by
  have h1:=(WideShapes.sorted_perm (es.toList.map (WideElems.rg Tryz.prog 9 zM))).map λp=>strOf p.1;refine h1.trans ?_
  have:(es.toList.map (WideElems.rg Tryz.prog 9 zM)).map (λp=>strOf p.1)=l:=by
   rw[List.map_map]
   have e1:es.toList.map ((λp:Lit×DataW Unit=>strOf p.1) ∘ WideElems.rg Tryz.prog 9 zM)=es.toList.map λx=>strOf ((keyOf Tryz.prog 9 x.key).getD (.bool false)):=by refine List.map_congr_left λx hx=>?_;obtain⟨s,h1,h2⟩:=hkey x hx;simp[WideElems.rg,WideElems.rd,h2,hko s h1,zM]
   rw[e1,show (λx:MapEntry=>strOf ((keyOf Tryz.prog 9 x.key).getD (.bool false)))=(λv=>strOf ((keyOf Tryz.prog 9 v).getD (.bool false))) ∘ MapEntry.key from rfl,<-List.map_map,hk,List.map_map]
   have:∀(r:List (List UInt8)),(∀s∈r,s∈l)->r.map ((λv=>strOf ((keyOf Tryz.prog 9 v).getD (.bool false))) ∘ encStr)=r:=by
    intro r
    induction r with
    |nil=>intro _;rfl
    |cons s r ih=>intro h;rw[List.map_cons,ih λx hx=>h x (List.mem_cons_of_mem _ hx)];simp[hko s (h s (by simp)),strOf]
   exact this l λ_ h=>h
  rw[this]
 have hsize:Maps.size (.map ((es.toList.map (WideElems.rg Tryz.prog 9 zM)).foldr DataW.insert []):DataW Unit)<=1000:=by show ((es.toList.map (WideElems.rg Tryz.prog 9 zM)).foldr DataW.insert []).length<=1000;rw[DataW.length_sorted];simp;omega
 have hseq:=AnyZ.keys_gives (ρ:=Tryz.keysK_ren) {Tryz.keysK with} Fence.wide 2 trivial rfl (by omega) Bm b es.size _ w hBm hm hown;have hc:=AnyZ.sorted_in Tryz.sortedK Fence.wide 5 trivial trivial trivial trivial rfl (by omega) (aDp _) (enters_of Tryz.func271 (by kernel_rfl) rfl) 272 #[.pointer (some ⟨Bm,0,none⟩)] trivial (enters_of Tryz.func272 (by kernel_rfl) rfl) _ _ (by simp only[maxLen];omega) (by omega) w hseq;refine(callsIn_wide.1 hc).mono ?_;rintro e w' ⟨v,ss,he,hS,hrow,hnil,hbe⟩;exact⟨v,ss,he,hS.trans hperm,hrow,hnil,hbe⟩
theorem aNh{W:World}(h:W.ShapedOpen Tryz.prog):∃(m:Int)(T:TypeId)(fr:Nat×Nat),W.heap[6]?=some (.cells #[.int .i64 m] T fr):=by
 obtain⟨m,hm⟩:=Tryz.laysM145.s1_3 W h;obtain⟨cs,hh,hs,_⟩:=h.1 6 #[.int .i64 0] 3 (of_decide_eq_true (by kernel_rfl)) (by kernel_rfl);have h1:cs.size=1:=hs;have h0:0<cs.size:=by omega
 have:W.cell? ⟨6,0,none⟩=some cs[0]:=by simp[World.cell?,hh,h0]
 have hm':W.cell? ⟨6,0,none⟩=some (.int .i64 m):=hm;rw[this]at hm';have e:cs = #[cs[0]]:=by
  apply Array.ext;simp[h1];intro i h2 h3;have:i=0:=by omega
  subst this;rfl
 refine⟨m,3,(0,0),?_⟩;rw[hh,e,Option.some.inj hm']
end Go.Proofs
end
section
namespace Go.Proofs
open Go.Shelf
def Tryz.laysM171_ren:Go.Shelf.Ren:=⟨λ|171=>78|243=>152|246=>213|283=>266|284=>267|285=>268|286=>269|129=>110|317=>302|318=>303|319=>304|320=>305|337=>330|338=>331|n=>n,λ|3=>3|9=>9|2=>2|4=>4|171=>282|0=>0|53=>159|37=>227|5=>5|173=>284|212=>320|51=>157|20=>20|213=>321|46=>110|232=>370|233=>371|n=>n,λ|17=>2|18=>8|19=>9|n=>n⟩
theorem Tryz.laysM171:Go.Proofs.LaysM.n171 Tryz.prog Tryz.laysM171_ren:={
 mixed:=by kernel_rfl
 f129:=aF Tryz.func110
 f171:=aF Tryz.func78
 f243:=aF Tryz.func152
 f246:=aF Tryz.func213
 f283:=aF Tryz.func266
 f284:=aF Tryz.func267
 f285:=aF Tryz.func268
 f286:=aF Tryz.func269
 f317:=aF Tryz.func302
 f318:=aF Tryz.func303
 f319:=aF Tryz.func304
 f320:=aF Tryz.func305
 f337:=aF Tryz.func330
 f338:=aF Tryz.func331
 t0:=Tryz.underlying0
 a0:=Tryz.isAgg0
 z0:=Tryz.sizeOf0
 v0:=Tryz.zeroValue0
 t2:=Tryz.underlying2
 a2:=Tryz.isAgg2
 z2:=Tryz.sizeOf2
 v2:=Tryz.zeroValue2
 t3:=Tryz.underlying3
 a3:=Tryz.isAgg3
 z3:=Tryz.sizeOf3
 v3:=Tryz.zeroValue3
 t4:=Tryz.underlying4
 a4:=Tryz.isAgg4
 z4:=Tryz.sizeOf4
 v4:=Tryz.zeroValue4
 t5:=Tryz.underlying5
 a5:=Tryz.isAgg5
 z5:=Tryz.sizeOf5
 v5:=Tryz.zeroValue5
 t9:=Tryz.underlying9
 a9:=Tryz.isAgg9
 z9:=Tryz.sizeOf9
 v9:=Tryz.zeroValue9
 t20:=Tryz.underlying20
 a20:=Tryz.isAgg20
 z20:=Tryz.sizeOf20
 v20:=Tryz.zeroValue20
 t37:=Tryz.underlying227
 a37:=Tryz.isAgg227
 z37:=Tryz.sizeOf227
 v37:=Tryz.zeroValue227
 t46:=Tryz.underlying110
 a46:=Tryz.isAgg110
 z46:=Tryz.sizeOf110
 v46:=Tryz.zeroValue110
 t51:=Tryz.underlying157
 a51:=Tryz.isAgg157
 z51:=Tryz.sizeOf157
 v51:=Tryz.zeroValue157
 t53:=Tryz.underlying159
 a53:=Tryz.isAgg159
 z53:=Tryz.sizeOf159
 v53:=Tryz.zeroValue159
 t171:=Tryz.underlying282
 a171:=Tryz.isAgg282
 z171:=Tryz.sizeOf282
 v171:=Tryz.zeroValue282
 t173:=Tryz.underlying284
 a173:=Tryz.isAgg284
 z173:=Tryz.sizeOf284
 v173:=Tryz.zeroValue284
 t212:=Tryz.underlying320
 a212:=Tryz.isAgg320
 z212:=Tryz.sizeOf320
 v212:=Tryz.zeroValue320
 t213:=Tryz.underlying321
 a213:=Tryz.isAgg321
 z213:=Tryz.sizeOf321
 t232:=Tryz.underlying370
 a232:=Tryz.isAgg370
 z232:=Tryz.sizeOf370
 v232:=Tryz.zeroValue370
 t233:=Tryz.underlying371
 a233:=Tryz.isAgg371
 z233:=Tryz.sizeOf371
 v233:=Tryz.zeroValue371
 g17:=by kernel_rfl
 g18:=by kernel_rfl
 g19:=by kernel_rfl
 i0:=by kernel_rfl
 i2:=by kernel_rfl
 i3:=by kernel_rfl
 i4:=by kernel_rfl
 i5:=by kernel_rfl
 i9:=by kernel_rfl
 i20:=by kernel_rfl
 i37:=by kernel_rfl
 i46:=by kernel_rfl
 i51:=by kernel_rfl
 i53:=by kernel_rfl
 i171:=by kernel_rfl
 i173:=by kernel_rfl
 i212:=by kernel_rfl
 i232:=by kernel_rfl
 i233:=by kernel_rfl
 m17:=by kernel_rfl
 m18:=by kernel_rfl
 m19:=by kernel_rfl}
def Tryz.laysC172_ren:Go.Shelf.Ren:=⟨λ|172=>195|244=>227|245=>228|247=>274|279=>275|280=>276|281=>277|282=>278|287=>308|316=>309|171=>78|205=>310|321=>341|322=>342|243=>152|246=>213|283=>266|284=>267|285=>268|286=>269|129=>110|317=>302|318=>303|319=>304|320=>305|337=>330|338=>331|n=>n,λ|9=>9|3=>3|75=>224|76=>225|4=>4|5=>5|167=>287|37=>227|0=>0|85=>288|2=>2|168=>290|53=>159|175=>324|46=>110|210=>328|127=>353|145=>356|143=>354|21=>21|171=>282|173=>284|212=>320|51=>157|20=>20|213=>321|232=>370|233=>371|80=>391|n=>n,λ|15=>3|16=>4|17=>2|18=>8|19=>9|n=>n⟩
theorem Tryz.laysC172:Go.Proofs.LaysC.n172 Tryz.prog Tryz.laysC172_ren:={
 mixed:=by kernel_rfl
 f129:=aF Tryz.func110
 f171:=aF Tryz.func78
 f172:=aF Tryz.func195
 f205:=aF Tryz.func310
 f243:=aF Tryz.func152
 f244:=aF Tryz.func227
 f245:=aF Tryz.func228
 f246:=aF Tryz.func213
 f247:=aF Tryz.func274
 f279:=aF Tryz.func275
 f280:=aF Tryz.func276
 f281:=aF Tryz.func277
 f282:=aF Tryz.func278
 f283:=aF Tryz.func266
 f284:=aF Tryz.func267
 f285:=aF Tryz.func268
 f286:=aF Tryz.func269
 f287:=aF Tryz.func308
 f316:=aF Tryz.func309
 f317:=aF Tryz.func302
 f318:=aF Tryz.func303
 f319:=aF Tryz.func304
 f320:=aF Tryz.func305
 f321:=aF Tryz.func341
 f322:=aF Tryz.func342
 f337:=aF Tryz.func330
 f338:=aF Tryz.func331
 t0:=Tryz.underlying0
 a0:=Tryz.isAgg0
 z0:=Tryz.sizeOf0
 v0:=Tryz.zeroValue0
 t2:=Tryz.underlying2
 a2:=Tryz.isAgg2
 z2:=Tryz.sizeOf2
 v2:=Tryz.zeroValue2
 t3:=Tryz.underlying3
 a3:=Tryz.isAgg3
 z3:=Tryz.sizeOf3
 v3:=Tryz.zeroValue3
 t4:=Tryz.underlying4
 a4:=Tryz.isAgg4
 z4:=Tryz.sizeOf4
 v4:=Tryz.zeroValue4
 t5:=Tryz.underlying5
 a5:=Tryz.isAgg5
 z5:=Tryz.sizeOf5
 v5:=Tryz.zeroValue5
 t9:=Tryz.underlying9
 a9:=Tryz.isAgg9
 z9:=Tryz.sizeOf9
 v9:=Tryz.zeroValue9
 t20:=Tryz.underlying20
 a20:=Tryz.isAgg20
 z20:=Tryz.sizeOf20
 v20:=Tryz.zeroValue20
 t21:=Tryz.underlying21
 a21:=Tryz.isAgg21
 z21:=Tryz.sizeOf21
 v21:=Tryz.zeroValue21
 t37:=Tryz.underlying227
 a37:=Tryz.isAgg227
 z37:=Tryz.sizeOf227
 v37:=Tryz.zeroValue227
 t46:=Tryz.underlying110
 a46:=Tryz.isAgg110
 z46:=Tryz.sizeOf110
 v46:=Tryz.zeroValue110
 t51:=Tryz.underlying157
 a51:=Tryz.isAgg157
 z51:=Tryz.sizeOf157
 v51:=Tryz.zeroValue157
 t53:=Tryz.underlying159
 a53:=Tryz.isAgg159
 z53:=Tryz.sizeOf159
 v53:=Tryz.zeroValue159
 t75:=Tryz.underlying224
 a75:=Tryz.isAgg224
 z75:=Tryz.sizeOf224
 v75:=Tryz.zeroValue224
 t76:=Tryz.underlying225
 a76:=Tryz.isAgg225
 z76:=Tryz.sizeOf225
 v76:=Tryz.zeroValue225
 t85:=Tryz.underlying288
 a85:=Tryz.isAgg288
 z85:=Tryz.sizeOf288
 v85:=Tryz.zeroValue288
 t127:=Tryz.underlying353
 a127:=Tryz.isAgg353
 z127:=Tryz.sizeOf353
 v127:=Tryz.zeroValue353
 t143:=Tryz.underlying354
 a143:=Tryz.isAgg354
 z143:=Tryz.sizeOf354
 v143:=Tryz.zeroValue354
 t145:=Tryz.underlying356
 a145:=Tryz.isAgg356
 z145:=Tryz.sizeOf356
 v145:=Tryz.zeroValue356
 t167:=Tryz.underlying287
 a167:=Tryz.isAgg287
 z167:=Tryz.sizeOf287
 v167:=Tryz.zeroValue287
 t168:=Tryz.underlying290
 a168:=Tryz.isAgg290
 z168:=Tryz.sizeOf290
 v168:=Tryz.zeroValue290
 t171:=Tryz.underlying282
 a171:=Tryz.isAgg282
 z171:=Tryz.sizeOf282
 v171:=Tryz.zeroValue282
 t173:=Tryz.underlying284
 a173:=Tryz.isAgg284
 z173:=Tryz.sizeOf284
 v173:=Tryz.zeroValue284
 t175:=Tryz.underlying324
 a175:=Tryz.isAgg324
 z175:=Tryz.sizeOf324
 v175:=Tryz.zeroValue324
 t210:=Tryz.underlying328
 a210:=Tryz.isAgg328
 z210:=Tryz.sizeOf328
 v210:=Tryz.zeroValue328
 t212:=Tryz.underlying320
 a212:=Tryz.isAgg320
 z212:=Tryz.sizeOf320
 v212:=Tryz.zeroValue320
 t213:=Tryz.underlying321
 a213:=Tryz.isAgg321
 z213:=Tryz.sizeOf321
 t232:=Tryz.underlying370
 a232:=Tryz.isAgg370
 z232:=Tryz.sizeOf370
 v232:=Tryz.zeroValue370
 t233:=Tryz.underlying371
 a233:=Tryz.isAgg371
 z233:=Tryz.sizeOf371
 v233:=Tryz.zeroValue371
 g15:=by kernel_rfl
 g16:=by kernel_rfl
 g17:=by kernel_rfl
 g18:=by kernel_rfl
 g19:=by kernel_rfl
 t80:=Tryz.underlying391
 a80:=Tryz.isAgg391
 z80:=Tryz.sizeOf391
 v80:=Tryz.zeroValue391
 i0:=by kernel_rfl
 i2:=by kernel_rfl
 i3:=by kernel_rfl
 i4:=by kernel_rfl
 i5:=by kernel_rfl
 i9:=by kernel_rfl
 i20:=by kernel_rfl
 i21:=by kernel_rfl
 i37:=by kernel_rfl
 i46:=by kernel_rfl
 i51:=by kernel_rfl
 i53:=by kernel_rfl
 i75:=by kernel_rfl
 i76:=by kernel_rfl
 i80:=by kernel_rfl
 i85:=by kernel_rfl
 i127:=by kernel_rfl
 i143:=by kernel_rfl
 i145:=by kernel_rfl
 i167:=by kernel_rfl
 i168:=by kernel_rfl
 i171:=by kernel_rfl
 i173:=by kernel_rfl
 i175:=by kernel_rfl
 i210:=by kernel_rfl
 i212:=by kernel_rfl
 i232:=by kernel_rfl
 i233:=by kernel_rfl
 m15:=by kernel_rfl
 m16:=by kernel_rfl
 m17:=by kernel_rfl
 m18:=by kernel_rfl
 m19:=by kernel_rfl
 c0:=by kernel_rfl
 c2:=by kernel_rfl
 c3:=by kernel_rfl
 c4:=by kernel_rfl
 c5:=by kernel_rfl
 c9:=by kernel_rfl
 c20:=by kernel_rfl
 c21:=by kernel_rfl
 c37:=by kernel_rfl
 c46:=by kernel_rfl
 c51:=by kernel_rfl
 c53:=by kernel_rfl
 c75:=by kernel_rfl
 c76:=by kernel_rfl
 c80:=by kernel_rfl
 c85:=by kernel_rfl
 c127:=by kernel_rfl
 c143:=by kernel_rfl
 c145:=by kernel_rfl
 c167:=by kernel_rfl
 c168:=by kernel_rfl
 c171:=by kernel_rfl
 c173:=by kernel_rfl
 c175:=by kernel_rfl
 c210:=by kernel_rfl
 c212:=by kernel_rfl
 c213:=by kernel_rfl
 c232:=by kernel_rfl
 c233:=by kernel_rfl}
def Tryz.lays189_ren:Go.Shelf.Ren:=⟨λ|189=>23|125=>54|257=>53|128=>109|129=>110|294=>100|295=>101|296=>102|297=>103|298=>104|299=>105|216=>106|300=>107|301=>108|328=>178|329=>179|330=>180|331=>181|332=>182|215=>183|343=>223|n=>n,λ|28=>35|3=>3|46=>110|0=>0|51=>157|53=>159|4=>4|183=>150|182=>149|131=>66|5=>5|9=>9|218=>212|222=>216|228=>259|229=>243|n=>n,λ|n=>n⟩
theorem Tryz.lays189:Go.Proofs.Lays.n189 Tryz.prog Tryz.lays189_ren:={
 mixed:=by kernel_rfl
 f125:=aF Tryz.func54
 f128:=aF Tryz.func109
 f129:=aF Tryz.func110
 f189:=aF Tryz.func23
 f215:=aF Tryz.func183
 f216:=aF Tryz.func106
 f257:=aF Tryz.func53
 f294:=aF Tryz.func100
 f295:=aF Tryz.func101
 f296:=aF Tryz.func102
 f297:=aF Tryz.func103
 f298:=aF Tryz.func104
 f299:=aF Tryz.func105
 f300:=aF Tryz.func107
 f301:=aF Tryz.func108
 f328:=aF Tryz.func178
 f329:=aF Tryz.func179
 f330:=aF Tryz.func180
 f331:=aF Tryz.func181
 f332:=aF Tryz.func182
 f343:=aF Tryz.func223
 t0:=Tryz.underlying0
 a0:=Tryz.isAgg0
 z0:=Tryz.sizeOf0
 v0:=Tryz.zeroValue0
 t3:=Tryz.underlying3
 a3:=Tryz.isAgg3
 z3:=Tryz.sizeOf3
 v3:=Tryz.zeroValue3
 t4:=Tryz.underlying4
 a4:=Tryz.isAgg4
 z4:=Tryz.sizeOf4
 v4:=Tryz.zeroValue4
 t5:=Tryz.underlying5
 a5:=Tryz.isAgg5
 z5:=Tryz.sizeOf5
 v5:=Tryz.zeroValue5
 t9:=Tryz.underlying9
 a9:=Tryz.isAgg9
 z9:=Tryz.sizeOf9
 v9:=Tryz.zeroValue9
 t28:=Tryz.underlying35
 a28:=Tryz.isAgg35
 z28:=Tryz.sizeOf35
 v28:=Tryz.zeroValue35
 t46:=Tryz.underlying110
 a46:=Tryz.isAgg110
 z46:=Tryz.sizeOf110
 v46:=Tryz.zeroValue110
 t51:=Tryz.underlying157
 a51:=Tryz.isAgg157
 z51:=Tryz.sizeOf157
 v51:=Tryz.zeroValue157
 t53:=Tryz.underlying159
 a53:=Tryz.isAgg159
 z53:=Tryz.sizeOf159
 v53:=Tryz.zeroValue159
 t131:=Tryz.underlying66
 a131:=Tryz.isAgg66
 z131:=Tryz.sizeOf66
 v131:=Tryz.zeroValue66
 t182:=Tryz.underlying149
 a182:=Tryz.isAgg149
 z182:=Tryz.sizeOf149
 v182:=Tryz.zeroValue149
 t183:=Tryz.underlying150
 a183:=Tryz.isAgg150
 z183:=Tryz.sizeOf150
 v183:=Tryz.zeroValue150
 t218:=Tryz.underlying212
 a218:=Tryz.isAgg212
 z218:=Tryz.sizeOf212
 v218:=Tryz.zeroValue212
 t222:=Tryz.underlying216
 a222:=Tryz.isAgg216
 z222:=Tryz.sizeOf216
 v222:=Tryz.zeroValue216
 t228:=Tryz.underlying259
 a228:=Tryz.isAgg259
 z228:=Tryz.sizeOf259
 v228:=Tryz.zeroValue259
 t229:=Tryz.underlying243
 a229:=Tryz.isAgg243
 z229:=Tryz.sizeOf243
 v229:=Tryz.zeroValue243}
def Tryz.laysNm220_ren:Go.Shelf.Ren:=⟨λ|20=>24|n=>n,λ|22=>35|3=>3|4=>4|0=>0|n=>n,λ|n=>n⟩
theorem Tryz.laysNm220:Go.Proofs.Lays2.n20 Tryz.prog Tryz.laysNm220_ren:={
 mixed:=by kernel_rfl
 f20:=aF Tryz.func24
 t0:=Tryz.underlying0
 a0:=Tryz.isAgg0
 z0:=Tryz.sizeOf0
 v0:=Tryz.zeroValue0
 t3:=Tryz.underlying3
 a3:=Tryz.isAgg3
 z3:=Tryz.sizeOf3
 v3:=Tryz.zeroValue3
 t4:=Tryz.underlying4
 a4:=Tryz.isAgg4
 z4:=Tryz.sizeOf4
 v4:=Tryz.zeroValue4
 t22:=Tryz.underlying35
 a22:=Tryz.isAgg35
 z22:=Tryz.sizeOf35
 v22:=Tryz.zeroValue35
 i3:=by kernel_rfl}
open Go.RowKit Go.Sort Go.Lib in
theorem Tryz.strconv_Itoa(n:Int)(h0 : -9223372036854775808<=n)(h1:n<=9223372036854775807)(w:World){T:TypeId}{fr:Nat×Nat}(ht:w.heap[2]?=some (.cells (Lib.pow10Tab.map λz=>Value.int .u64 z).toArray T fr)) :
  Calls Tryz.prog 78 #[.int .i64 n] w λe w'=>e = .returned (.string ⟨(Lib.itoa n).toArray⟩)/\∃k os,w'=grow (w.drewN k) os:=by
 refine Any.strconv_Itoa Tryz.laysM171 n h0 h1 w ?_;unfold Lib.TabIs World.var?;rw[show Tryz.prog.globalNamed _=some 2 by kernel_rfl,Option.bind_some,ht]
open Go.RowKit in
theorem Tryz.strconv_Atoi_ok(s:ByteArray)(hmax:s.size<=9223372036854775806)(v:Int)(h:Lib.atoiAll s.data.toList = .ok v)(w:World) :
  Calls Tryz.prog 195 #[.string s] w λe w'=>e = .returned (.tuple #[.int .i64 v,.nilIface])/\(w'=w\/∃t,w'=Lib.bytesWorld w 5 t):=Any.strconv_Atoi_ok Tryz.laysC172 s hmax v h w
open Go.RowKit in
theorem Tryz.strconv_Atoi_bad(s:ByteArray)(hlim:s.size<=281474976710656)(h1:∀v,Lib.atoiAll s.data.toList ≠ .ok v)(h2:Lib.atoiAll s.data.toList ≠ .range)(ev:Value)(w:World)(hv:w.cell? ⟨3,0,none⟩=some ev)(hev:ev = .nilIface\/∃te pe,ev = .iface te pe) :
  Calls Tryz.prog 195 #[.string s] w λe w'=>∃N,e = .returned (.tuple #[.int .i64 (0),.iface 290 (.pointer (some ⟨N,0,none⟩))])/\w.heap.size<=N/\w'.heap[N]?=some (.cells #[.string ⟨#[65,116,111,105]⟩,.string s,ev] 328 (0,0))/\Below w.heap.size w w':=by
 cases h:Lib.atoiAll s.data.toList
 case ok v=>exact absurd h (h1 v)
 case range=>exact absurd h h2
 exact Any.strconv_Atoi_syntax Tryz.laysC172 s hlim h ev w hv hev
open Go.RowKit in
theorem Tryz.strconv_Atoi_range(s:ByteArray)(hlim:s.size<=281474976710656)(h:Lib.atoiAll s.data.toList = .range)(ev:Value)(w:World)(hv:w.cell? ⟨4,0,none⟩=some ev)(hev:ev = .nilIface\/∃te pe,ev = .iface te pe) :
  Calls Tryz.prog 195 #[.string s] w λe w'=>∃N,e = .returned (.tuple #[.int .i64 (Lib.atoiSat s.data.toList),.iface 290 (.pointer (some ⟨N,0,none⟩))])/\w.heap.size<=N/\w'.heap[N]?=some (.cells #[.string ⟨#[65,116,111,105]⟩,.string s,ev] 328 (0,0))/\Below w.heap.size w w':=Any.strconv_Atoi_range Tryz.laysC172 s hlim h ev w hv hev
open Go.Sort Go.RowKit in
theorem Tryz.slices_Sort_int(blk off cap:Nat)(zs:List Int)(w:World)(hH:Holds (Value.int .i64) w blk off zs.toArray)(hblk:blk<w.heap.size)(hsz:zs.length<4611686018427387904) :
  Calls Tryz.prog 23 #[.slice (some ⟨blk,off,none⟩) zs.length cap] w λe w'=>
   e = .returned (.tuple #[])/\∃n os,w'=grow (putRow (Value.int .i64) (Sort.ahead w n) blk off (zs.mergeSort λx y=>decide (x<=y)).toArray) os:=Any.slices_Sort_int Tryz.lays189 blk off cap zs w hH hblk hsz
open Go.RowKit Go.Lib Go.Sort in
theorem Tryz.slices_Compact_int(blk off cap:Nat)(zs:List Int)(w:World)(hH:Holds (Value.int .i64) w blk off zs.toArray)(hsz:zs.length<=9223372036854775807)(hcap:zs.length<=cap) :
  Calls Tryz.prog 24 #[.slice (some ⟨blk,off,none⟩) zs.length cap] w λe w'=>e = .returned (.slice (some ⟨blk,off,none⟩) (Lib.compact zs).length cap)/\∃q,w'=putRow (Value.int .i64) (Sort.ahead w q) blk off (Lib.compact zs++List.replicate (zs.length-(Lib.compact zs).length) 0).toArray:=Any.slices_Compact_int Tryz.laysNm220 blk off cap zs w hH hsz hcap
open Go.RowKit Go.Lib Go.Sort in
theorem Tryz.slices_Compact_int_empty(a:Option Addr)(cap:Nat)(w:World) :
  Calls Tryz.prog 24 #[.slice a 0 cap] w λe w'=>e = .returned (.slice a 0 cap)/\w'=w:=Any.slices_Compact_int_empty Tryz.laysNm220 a cap w
open Go.RowKit Go.Sort in
theorem Tryz.slices_Sort_int_none(p:Option Addr)(cap:Nat)(w:World) :
  Calls Tryz.prog 23 #[.slice p 0 cap] w λe w'=>e = .returned (.tuple #[])/\w'=w:=Any.slices_Sort_int_none Tryz.lays189 p cap w
end Go.Proofs
end
section
set_option maxRecDepth 100000
namespace Go.Proofs
open Go.Tev
def exB(f:Nat):Option (List AV->Nat->Hp->Option (AV×Hp)):=
 bif f.beq 92 then some mW else bif f.beq 93 then some nW else bif f.beq 75 then some pG else bif f.beq 76 then some pH else bif f.beq 522 then some tX else bif f.beq 455 then some BD else bif f.beq 401 then some (nE 442) else none
def zF:List Int:=[0,0,0,0,0,0,0,0,0,1,1,1,1,1,0,0,0,0,0,0,0,0,0,0,0,0,0,0,0,0,0,0,1,0,0,0,0,0,0,0,0,0,0,0,0,0,0,0,0,0,0,0,0,0,0,0,0,0,0,0,0,0,0,0,0,0,0,0,0,0,0,0,0,0,0,0,0,0,0,0,0,0,0,0,0,0,0,0,0,0,0,0,0,0,0,0,0,0,0,0,0,0,0,0,0,0,0,0,0,0,0,0,0,0,0,0,0,0,0,0,0,0,0,0,0,0,0,0,0,0,0,0,0,0,0,0,0,0,0,0,0,0,0,0,0,0,0,0,0,0,0,0,0,0,0,0,0,0,0,0,0,0,0,0,0,0,0,0,0,0,0,0,0,0,0,0,0,0,0,0,0,0,0,0,0,0,0,0,0,0,0,0,0,0,0,0,0,0,0,0,0,0,0,0,0,0,0,0,0,0,0,0,0,0,0,0,0,0,0,0,0,0,0,0,0,0,0,0,0,0,0,0,0,0,0,0,0,0,0,0,0,0,0,0,0,0,0,0,0,0,0,0,0,0,0,0]
def glS(m:Int)(g:Nat):Option AV:=
 bif g.beq 3 then some (.ifc .top) else bif g.beq 4 then some (.ifc .top) else bif g.beq 2 then some (.agg (Lib.pow10Tab.map λn => .int .u64 n)) else bif g.beq 5 then some (.agg (zF.map λn => .int .u8 n)) else bif g.beq 6 then some (.int .i64 m) else none
def pgS(m:Int):Pg:=⟨λf=>tab.find f,glS m,exB⟩
def nm:Nm:=aNe Tryz.prog num gnum
theorem n75:nm.f 75=23:=by kernel_rfl
theorem n76:nm.f 76=24:=by kernel_rfl
theorem n92:nm.f 92=195:=by kernel_rfl
theorem n93:nm.f 93=78:=by kernel_rfl
theorem aNw:sZ Tryz.prog (nm.f 75):=by rw[n75];exact⟨Tryz.f23,Tryz.func23,by kernel_rfl,of_decide_eq_true (by kernel_rfl)⟩
theorem aNv:sZ Tryz.prog (nm.f 76):=by rw[n76];exact⟨Tryz.f24,Tryz.func24,by kernel_rfl,of_decide_eq_true (by kernel_rfl)⟩
theorem aNu:sZ Tryz.prog (nm.f 92):=by rw[n92];exact⟨Tryz.f195,Tryz.func195,by kernel_rfl,of_decide_eq_true (by kernel_rfl)⟩
theorem aNt:sZ Tryz.prog (nm.f 93):=by rw[n93];exact⟨Tryz.f78,Tryz.func78,by kernel_rfl,of_decide_eq_true (by kernel_rfl)⟩
theorem aGu(m:Int):fB Tryz.prog nm (glS m) gnum ⟨λf' avs kb h=>if f'=93 then nW avs kb h else none,λ_ _ _ _=>none⟩:=by refine aEu aNt 2 rfl ?_;intro n h0 h1 w hw;obtain⟨T,fr,ht⟩:=hw;have ht':w.heap[2]?=some (.cells (Lib.pow10Tab.map λz=>Value.int .u64 z).toArray T fr):=ht;rw[n93];refine(Tryz.strconv_Itoa n (by omega) h1 w ht').mono ?_;rintro e w' ⟨rfl,k,os,rfl⟩;exact⟨rfl,Lib.below_grow _ w (Nat.le_refl _) k os⟩
theorem PP(s:List UInt8):((⟨s.toArray⟩:ByteArray).data.toList)=s:=by simp
theorem aDn(s:List UInt8):(⟨s.toArray⟩:ByteArray).size=s.length:=by simp[ByteArray.size]
theorem aHg(m:Int):fB Tryz.prog nm (glS m) gnum ⟨λf' avs kb h=>if f'=92 then mW avs kb h else none,λ_ _ _ _=>none⟩:=by
 refine aEK aNu 3 4 rfl rfl ?_ ?_ ?_;intro s hs v hv w;rw[n92];refine(Tryz.strconv_Atoi_ok ⟨s.toArray⟩ (by rw[aDn];omega) v (by rw[PP];exact hv) w).mono ?_;rintro e w' ⟨rfl,hw⟩;refine⟨rfl,?_⟩;rcases hw with rfl|⟨t,rfl⟩
 exact RowKit.Below.refl _ _;exact Lib.bytesWorld_below _ _ _;intro s hs hv1 hv2 w te pe hc;rw[n92];refine(Tryz.strconv_Atoi_bad ⟨s.toArray⟩ (by rw[aDn];omega) (by rw[PP];exact hv1) (by rw[PP];exact hv2) _ w hc (.inr ⟨te,pe,rfl⟩)).mono ?_;rintro e w' ⟨N,rfl,_,_,hb⟩;exact⟨_,_,rfl,hb⟩;intro s hs hv w te pe hc;rw[n92];refine(Tryz.strconv_Atoi_range ⟨s.toArray⟩ (by rw[aDn];omega) (by rw[PP];exact hv) _ w hc (.inr ⟨te,pe,rfl⟩)).mono ?_;rintro e w' ⟨N,rfl,_,_,hb⟩;rw[PP];exact⟨_,_,rfl,hb⟩
theorem sortS(m:Int):fB Tryz.prog nm (glS m) gnum ⟨λf' avs kb h=>if f'=75 then pG avs kb h else none,λ_ _ _ _=>none⟩:=by refine aDq aNw ?_ ?_;intro blk off cap zs w hH hb hz;rw[n75];refine(Tryz.slices_Sort_int blk off cap zs w hH hb (by omega)).mono ?_;rintro e w' ⟨rfl,n,os,rfl⟩;exact⟨rfl,n,os,by rw[PT]⟩;intro p cap w;rw[n75];exact Tryz.slices_Sort_int_none p cap w
theorem aGK(m:Int):fB Tryz.prog nm (glS m) gnum ⟨λf' avs kb h=>if f'=76 then pH avs kb h else none,λ_ _ _ _=>none⟩:=by refine aEC aNv ?_ ?_;intro blk off cap zs w hH hz hc;rw[n76];refine(Tryz.slices_Compact_int blk off cap zs w hH (by omega) hc).mono ?_;rintro e w' ⟨rfl,q,rfl⟩;rw[J4];exact⟨rfl,q,rfl⟩;intro p cap w;rw[n76];exact Tryz.slices_Compact_int_empty p cap w
theorem aEo:nm.f 522=359:=by kernel_rfl
theorem aGD:sZ Tryz.prog (nm.f 522):=by rw[aEo];exact⟨Tryz.f359,Tryz.func359,by kernel_rfl,of_decide_eq_true (by kernel_rfl)⟩
theorem aFU:nm.f 455=285:=by kernel_rfl
theorem aGC:sZ Tryz.prog (nm.f 455):=by rw[aFU];exact⟨Tryz.f285,Tryz.func285,by kernel_rfl,of_decide_eq_true (by kernel_rfl)⟩
theorem nSo:nm.f 401=215:=by kernel_rfl
theorem nCl:nm.f 442=272:=by kernel_rfl
theorem aNs:sZ Tryz.prog (nm.f 401):=by rw[nSo];exact⟨Tryz.f215,Tryz.func215,by kernel_rfl,of_decide_eq_true (by kernel_rfl)⟩
theorem aGs(m:Int):fB Tryz.prog nm (glS m) gnum ⟨λf' avs kb h=>if f'=522 then tX avs kb h else none,λ_ _ _ _=>none⟩:=by refine aEt 522 aGD ?_ ?_;intro a c sep w;rw[aEo];exact Any.strings_Join_none Tryz.lays156 Tryz.joinX a c sep w;intro bk o c xs sep w h1 h2 h3 h4 h5;rw[aEo];exact Any.strings_Join Tryz.lays156 Tryz.joinX bk o c xs sep w h1 h2 h3 h4 h5
theorem aNx(m:Int):fB Tryz.prog nm (glS m) gnum ⟨λf' avs kb h=>if f'=455 then BD avs kb h else none,λ_ _ _ _=>none⟩:=by refine aGF 455 6 m rfl aGC ?_;intro s sep w hs hm;rw[aFU];exact aNy m s sep w hs hm
theorem TI(m:Int):fB Tryz.prog nm (glS m) gnum ⟨λf' avs kb h=>if f'=401 then nE 442 avs kb h else none,λ_ _ _ _=>none⟩:=by refine PR 401 442 9 aNs ?_;intro Bm b es clock l w h1 h2 h3 h4 h5 h6 h7;rw[nSo,nCl];exact TJ Bm b es clock l w h1 h2 h3 h4 h5 h6 h7
theorem exS(m:Int):∀f g,exB f=some g->fB Tryz.prog nm (glS m) gnum ⟨λf' avs kb h=>if f'=f then g avs kb h else none,λ_ _ _ _=>none⟩:=by
 intro f g h;unfold exB at h;cases h1:f.beq 92 with
 |true=>rw[h1]at h;cases h;obtain rfl:=Nat.eq_of_beq_eq_true h1;exact aHg m
 |false=>
  cases h2:f.beq 93 with
  |true=>rw[h1,h2]at h;cases h;obtain rfl:=Nat.eq_of_beq_eq_true h2;exact aGu m
  |false=>
   cases h3:f.beq 75 with
   |true=>rw[h1,h2,h3]at h;cases h;obtain rfl:=Nat.eq_of_beq_eq_true h3;exact sortS m
   |false=>
    cases h4:f.beq 76 with
    |true=>rw[h1,h2,h3,h4]at h;cases h;obtain rfl:=Nat.eq_of_beq_eq_true h4;exact aGK m
    |false=>
     cases h5:f.beq 522 with
     |true=>rw[h1,h2,h3,h4,h5]at h;cases h;obtain rfl:=Nat.eq_of_beq_eq_true h5;exact aGs m
     |false=>
      cases h6:f.beq 455 with
      |true=>rw[h1,h2,h3,h4,h5,h6]at h;cases h;obtain rfl:=Nat.eq_of_beq_eq_true h6;exact aNx m
      |false=>
       cases h7:f.beq 401 with
       |true=>rw[h1,h2,h3,h4,h5,h6,h7]at h;cases h;obtain rfl:=Nat.eq_of_beq_eq_true h7;exact TI m
       |false=>rw[h1,h2,h3,h4,h5,h6,h7]at h;cases h
theorem fitS(m:Int):S9 Tryz.prog nm gnum (pgS m):=fitP_of fits (exS m) (λ_ _ _ _=>Iff.rfl)
end Go.Proofs
end
namespace Go.Tev
section
def aGv(op:List UInt8):Bool:=decide (op=[108,116])||decide (op=[108,101])||decide (op=[103,116])||decide (op=[103,101])||decide (op=[101,113])||decide (op=[110,101])
def aHq:List Bool->Bool
 |[_,b,c]=>b&&c
 |_=>false
def RD(op:List UInt8)(kids:List Bool):Bool:=
 if aGv op then decide ((kids.length:Int)=2)
 else if decide (op=[115,101,108,101,99,116]) then aHq kids
 else match fK op with
  |none=>false
  |some p=>decide (p.result=[98,111,111,108])&&decide ((p.params.length:Int)=(kids.length:Int)) && !kids.any (λb=>b==false)
theorem FO(l:List Bool):Tev.treeL (l.map AV.bool)=true:=bG (f:=AV.bool) (λ_=>rfl) l
theorem I1(l:List (List UInt8)):Tev.treeL (l.map AV.str)=true:=bG (f:=AV.str) (λ_=>rfl) l
attribute [go_sem] FO I1
section
variable{pg:Pg}
def UD(op:List UInt8):Bool:=decide (op=[99,111,110,115,116])||decide (op=[116,114,117,116,104])
def aFK(l:List Bool)(a:Int):Bool:=decide (0<=a)&&(decide (a<(l.length:Int))&&(l[a.toNat]?).getD false)
def aFG(l:List Bool)(s:aH):Bool:=if UD s.op.bs then decide (s.num=0)||decide (s.num=1) else RD s.op.bs (s.args.es.map (aFK l))
def LJ(l:List Bool):List aH->List Bool
 |[]=>l
 |s::r=>LJ (l++[aFG l s]) r
def LI(code:List aH)(args:List Bool):Bool:=(LJ args code).getLast?.getD false
def FM(h:Hp)(ks:List Nat)(v:AV)(es:List Bool):Prop:=∃k∈ks,Own h k 1 false v (es.map AV.bool)
theorem FM.mono{h h':Hp}{ks:List Nat}{v:AV}{es:List Bool}(o:FM h ks v es)(hh:∀k∈ks,h'.get k=h.get k):FM h' ks v es:=by obtain⟨k,hk,o⟩:=o;exact⟨k,hk,o.mono (hh k hk)⟩
theorem qJ:∀(l:List Bool),aR 1 false (l.map AV.bool)=some (l.map AV.bool)
 |[]=>rfl
 |x::r=>by have ih:=qJ r;rw[List.map_cons,aR,ih];rfl
theorem FM.at{h:Hp}{ks:List Nat}{v:AV}{es:List Bool}(o:FM h ks v es){n:Int}(h0:0<=n)(h1:n<es.length):∃k e,v = .rf k e 0 es.length es.length/\h.get k=some (e,.blk (es.map AV.bool) 1 false false false)/\k∈ks:=by
 obtain⟨k,hk,⟨he,nl,cl,rfl,hc⟩|⟨e,cs,rfl,hg,hu⟩⟩:=o;have:es=[]:=by simpa using he
 subst this;simp at h1;omega;rw[qJ]at hu;cases hu;exact⟨k,e,by simp,hg,hk⟩
theorem FM.len{h:Hp}{ks:List Nat}{v:AV}{es:List Bool}(o:FM h ks v es)(kb s:Nat)(h':Hp)(Q:AV->Eff->Prop)(t:Tok Q):XO pg kb (.len 1) s h' [v] Q t=Q (.int .i64 es.length) (.pat [] []):=by
 obtain⟨k,hk,⟨he,nl,cl,rfl,hc⟩|⟨e,cs,rfl,hg,hu⟩⟩:=o;have:es=[]:=by simpa using he
 subst this;simp only[go_sem,seval];rw[bD];simp only[go_sem,seval]
theorem FM.flen{h:Hp}{ks:List Nat}{v:AV}{es:List Bool}(o:FM h ks v es)(h':Hp):u9 h' 1 [v]=some (.int .i64 es.length,.pat [] []):=by
 obtain⟨k,hk,⟨he,nl,cl,rfl,hc⟩|⟨e,cs,rfl,hg,hu⟩⟩:=o;have:es=[]:=by simpa using he
 subst this;rfl;rw[bD];rfl
end
end
section
def aFI(vals:List Typ)(v:Int):Bool:=decide (0<=v)&&(decide (v<(vals.length:Int))&&((vals[v.toNat]?).map λt=>decide (t.elem.bs=[98,111,111,108])).getD false)
def ifT:List Bool->Bool
 |[a,b]=>a&&b
 |_=>false
def aHs(fn:List aH):List Bool->Bool
 |[a,b]=>a&&LI fn [true,b]
 |_=>false
def aDl(vals:List Typ)(op:List UInt8)(num value:Int)(fn:List aH)(kids:List Bool):Bool:=
 if decide (op=[99,111,110,115,116]) then decide (num=0)||decide (num=1)
 else if decide (op=[108,105,110,101,97,114]) then false
 else if decide (op=[114,101,97,100]) then aFI vals value
 else if decide (op=[105,102]) then ifT kids
 else if decide (op=[114,101,100,117,99,101]) then aHs fn kids
 else if decide (op=[99,111,100,101]) then LI fn kids
 else RD op kids
mutual
def TF(vals:List Typ):aA->Bool
 |.mk op num value _ _ _ _ fn _ kids _=>aDl vals op.bs num value fn.es (LK vals kids)
def LK(vals:List Typ):List aA->List Bool
 |[]=>[]
 |p::r=>TF vals p::LK vals r
end
theorem Own.flen{h:Hp}{k esz:Nat}{ag:Bool}{v:AV}{es:List AV}(o:Own h k esz ag v es)(h':Hp):u9 h' 1 [v]=some (.int .i64 es.length,.pat [] []):=by
 rcases o with ⟨rfl,nl,cl,rfl,hc⟩|⟨e,cs,rfl,hg,hu⟩
 rfl;rfl
section
variable{pg:Pg}
end
end
end Go.Tev
