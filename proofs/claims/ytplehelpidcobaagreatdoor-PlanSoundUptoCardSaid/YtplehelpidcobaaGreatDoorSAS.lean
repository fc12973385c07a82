import Derived.Test.YtplehelpidcobaaGreatDoorSAR
import Derived.Lib.AtoiAllCases
import Derived.Test.YtplehelpidcobaaGreatDoorSAG
import Derived.Lib.SlicesCompact
import Derived.Lib.ItoaNum
import Derived.Lib.AtoiErrMem
import Derived.Sort.Grow
set_option linter.all false
section
namespace Go.Tev
def tG(args:List AV)(_:Nat)(h:Hp):Option (AV×Hp):=
 match args with
 |[.str s]=>
  if s.length<=16777216 then
   match Lib.atoiAll s with
   |.ok v=>some (.tup [.int .i64 v,.nili],h)
   |.range=>some (.tup [.int .i64 (Lib.atoiSat s),.ifc .top],h)
   |_=>some (.tup [.int .i64 0,.ifc .top],h)
  else none
 |_=>none
def rI(args:List AV)(_:Nat)(h:Hp):Option (AV×Hp):=
 match args with
 |[.int .i64 n]=>if 0<=n/\n<=9223372036854775807 then some (.str (kJ 20 n.toNat),h) else none
 |_=>none
def pR:List AV->Option (List Int)
 |[]=>some []
 |.int .i64 n::r=>(pR r).map (n :: ·)
 |_=>none
def vU(args:List AV)(_:Nat)(h:Hp):Option (AV×Hp):=
 match args with
 |[.sl _ [] _]=>some (.tup [],h)
 |[.rf k e off len _]=>
  match h.get k with
  |some (e',.blk cs 1 false ti false)=>
   if e'=e/\off+len<=cs.length/\len<=16777216 then
    match pR ((cs.drop off).take len) with
    |some zs=>some (.tup [],h.put k e (.blk (dJ cs off ((jE zs).map aG)) 1 false ti false))
    |none=>none
   else none
  |_=>none
 |_=>none
def vV(args:List AV)(_:Nat)(h:Hp):Option (AV×Hp):=
 match args with
 |[.sl nl [] cl]=>some (.sl nl [] cl,h)
 |[.rf k e off len cap]=>
  match h.get k with
  |some (e',.blk cs 1 false ti false)=>
   if e'=e/\off+len<=cs.length/\len<=16777216 then
    match pR ((cs.drop off).take len) with
    |some zs=>some (.rf k e off (d7 zs).length cap,h.put k e (.blk (dJ cs off ((d7 zs++List.replicate (zs.length-(d7 zs).length) 0).map aG)) 1 false ti false))
    |none=>none
   else none
  |_=>none
 |_=>none
theorem tC:∀l:List Int,pR (l.map aG)=some l
 |[]=>rfl
 |x::r=>by simp[pR,aG,tC r]
structure Ora(pg:Pg):Prop where
 f92:pg.fs 92=none
 f93:pg.fs 93=none
 f75:pg.fs 75=none
 f76:pg.fs 76=none
 atoi:pg.ex 92=some tG
 itoa:pg.ex 93=some rI
 sort:pg.ex 75=some vU
 comp:pg.ex 76=some vV
section
variable{pg:Pg}
theorem rP{f:Nat}{g:List AV->Nat->Hp->Option (AV×Hp)}(hf:pg.fs f=none)(hx:pg.ex f=some g){vs:List AV}{kb:Nat}{h h':Hp}{r:AV}(hg:g vs kb h=some (r,h')):pZ pg f vs kb h r h':=
 ⟨1,by simp only[bO,hf,hx,hg]⟩
theorem vC{f:Nat}{g:List AV->Nat->Hp->Option (AV×Hp)}(hf:pg.fs f=none)(hx:pg.ex f=some g){vs:List AV}{r:AV}(hg:g vs 0 []=some (r,[]))(hr:r.tree=true):Ret pg f vs r:=
 ⟨1,by simp only[eF,bO,hf,hx,hg,vX hr]⟩
theorem z8(A:Ora pg):J1 pg where
 sort:=by
  intro kb h k e l hg hb
  refine rP A.f75 A.sort ?_
  simp only[big]at hb
  simp only[vU,hg,List.length_map,Nat.zero_add,List.drop_zero]
  rw[if_pos ⟨trivial,Nat.le_refl _,hb⟩,List.take_of_length_le (by simp),tC]
  have hd:List.drop l.length (l.map aG)=[]:=by rw[List.drop_eq_nil_iff];simp
  simp[dJ,kX,hd]
 sortN:=by
  intro kb h nl cl
  exact rP A.f75 A.sort rfl
 comp:=by
  intro kb h k e l hg hb
  refine⟨(List.replicate (l.length-(d7 l).length) 0).map aG,rP A.f76 A.comp ?_⟩
  simp only[big]at hb
  have hc:=oZ l
  simp only[vV,hg,List.length_map,Nat.zero_add,List.drop_zero]
  rw[if_pos ⟨trivial,Nat.le_refl _,hb⟩,List.take_of_length_le (by simp),tC]
  simp only[dJ,List.take_zero,List.nil_append,Nat.zero_add]
  have hd:List.drop ((d7 l++List.replicate (l.length-(d7 l).length) 0).map aG).length (l.map aG)=[]:=by
   rw[List.drop_eq_nil_iff];simp;omega
  rw[hd,List.append_nil,List.map_append]
 compN:=by
  intro kb h nl cl
  exact rP A.f76 A.comp rfl
theorem c108(A:Ora pg)(hf:pg.fs 108=some cf108)(i:Nat)(hi:i<10):Ret pg 108 [.int .i64 i] (.str (rA i)):=by
 have h93:Ret pg 93 [.int .i64 (i:Int)] (.str [UInt8.ofNat (48+i)]):=by
  refine vC A.f93 A.itoa ?_ rfl
  simp only[rI]
  rw[if_pos (by omega)]
  simp only[Int.toNat_natCast,kJ]
  rw[if_pos hi]
 have h0:decide ((i:Int)<0)=false:=by simp
 refine Ret.ofX hf ?_
 unfold cf108
 simp only[h0,go_sem,seval]
 refine aB h93 (by simp only[go_sem,seval]) rfl ?_
 simp only[go_sem,seval]
 rfl
def nm:Bool->List UInt8->Bool
 |_,[]=>true
 | fst,c::r=>(fJ c||(!fst&&bA c))&&nm false r
theorem M6:∀r,nm false r=r.all (fun x=>fJ x||bA x)
 |[]=>rfl
 |c::r=>by simp[nm,M6 r]
theorem ET{s:List UInt8}(h:s.head? ≠ some 95):fT s=(nm true s&&(!decide (s=[])&&decide ((s.length:Int)<=30))):=by
 cases s with
 |nil=>rfl
 |cons c t=>
  have hc:c≠95:=fun e=>h (by simp[e])
  simp only[fT,if_neg hc,nm,M6]
  have:decide ((c::t).length<=30)=decide (((c::t).length:Int)<=30):=by
   rw[decide_eq_decide];omega
  rw[this]
  cases fJ c<;>cases (t.all fun x=>fJ x||bA x)<;>cases decide (((c::t).length:Int)<=30)<;>rfl
theorem ES(t:List UInt8):fT (95::t)=jN t:=by
 rw[F2]
 simp only[fT,if_true,List.length_cons]
 cases h:decide (t.length+1<=10)
 ·simp
 ·have:t.length+1<=30:=by simp at h;omega
  simp[this]
set_option maxHeartbeats 8000000 in
theorem c57(A:Ora pg)(hf:pg.fs 57=some cf57)(h91:pg.fs 91=some cf91)(h126:pg.fs 126=some cf126)(s:Str):Ret pg 57 [.str s.bs] (.bool (fT s.bs)):=by
 obtain⟨s,hb⟩:=s
 have a91:=c91 h91 h126 s [95]
 have hb':s.length<=16777216:=by simpa[big] using hb
 refine Ret.ofX hf ?_
 unfold cf57
 simp only[go_sem,seval]
 refine aB a91 (by simp only[go_sem,seval]) rfl ?_
 cases hu:(decide ([(95:UInt8)].length<=s.length)&&decide (s.take [(95:UInt8)].length=[95]))
 case true=>
  obtain⟨t,rfl⟩:∃t,s=95::t:=by
   cases s with
   |nil=>simp at hu
   |cons c t=>simp at hu;exact⟨t,by rw[hu]⟩
  have hlen:(((95:UInt8)::t).length:Int)=(t.length:Int)+1:=by simp
  have hlen2:((t.length+1:Nat):Int)=(t.length:Int)+1:=by simp
  have hs1:∀h,rH true false [.str (95::t),.int .i64 1]=some (.str t,.pat [] [])/\h=h:=fun(h:Hp)=>by
   refine⟨?_,rfl⟩
   simp only[rH,gS,Bool.false_eq_true,if_false,if_true,Option.getD_none,Option.getD_some]
   rw[if_pos ⟨by omega,by simp;omega,by omega⟩]
   simp[val]
  have hs2:=(hs1 []).1
  have hn:fT (95::t)=jN t:=ES t
  have htl:t.length<=16777216:=by simp at hb';omega
  have hex:tG [.str t] 0 []=(match Lib.atoiAll t with|.ok v=>some (.tup [.int .i64 v,.nili],[])|.range=>some (.tup [.int .i64 (Lib.atoiSat t),.ifc .top],[])|_=>some (.tup [.int .i64 0,.ifc .top],[])):=by
   simp only[tG];rw[if_pos htl]
  rw[hn]
  simp only[↓hs2,go_sem,seval]
  cases hat:Lib.atoiAll t
  case range=>
   rw[hat]at hex
   refine aB (vC A.f92 A.atoi hex (by simp[AV.tree,treeL])) (by simp only[go_sem,seval]) rfl ?_
   simp only[go_sem,seval]
   refine And.intro (by kernel_rfl) ?_
   simp only[jN,hat]
  case ok v=>
   rw[hat]at hex
   refine aB (vC A.f92 A.atoi hex (by simp[AV.tree,treeL])) (by simp only[go_sem,seval]) rfl ?_
   have hres:jN t=(decide (0<v)&&decide ((t.length:Int)+1<=10)&&decide (kJ 20 v.toNat=t)):=by simp only[jN,hat]
   rw[hres]
   cases b1:decide (0<v)
   case false=>
    simp only[b1,go_sem,seval]
    first|(refine And.intro (by kernel_rfl) ?_;rfl)|kernel_rfl
   have hv0:0<v:=by simpa using b1
   have hvb:=Lib.atoiAll_bounds hat
   have hit:Ret pg 93 [.int .i64 v] (.str (kJ 20 v.toNat)):=by
    refine vC A.f93 A.itoa ?_ rfl
    simp only[rI]
    rw[if_pos (by omega)]
   cases b2:decide ((t.length:Int)+1<=10)
   case false=>
    simp only[b1,hlen,hlen2,b2,go_sem,seval]
    first|(refine And.intro (by kernel_rfl) ?_;rfl)|kernel_rfl
   simp only[b1,hlen,hlen2,b2,go_sem,seval]
   refine aB hit (by simp only[go_sem,seval]) rfl ?_
   simp only[↓hs2,go_sem,seval]
   first|(refine And.intro (by kernel_rfl) ?_;rfl)|kernel_rfl
  rw[hat]at hex
  refine aB (vC A.f92 A.atoi hex (by simp[AV.tree,treeL])) (by simp only[go_sem,seval]) rfl ?_
  simp only[go_sem,seval]
  refine And.intro (by kernel_rfl) ?_
  simp only[jN,hat]
 case false=>
  have hh:s.head? ≠ some 95:=by
   intro he
   cases s with
   |nil=>simp at he
   |cons c t=>simp at he;subst he;simp at hu
  rw[ET hh]
  simp only[go_sem,seval]
  refine dS s (fun d e=>eK e (some 36) (.int .i64 d.length)) (fun d r hp=>nm true s=nm d.isEmpty r) rfl ?_ ?_ ?_
  ·rfl
  ·rintro hp hI
   have:nm true s=true:=by rw[hI];simp[nm]
   rw[this]
   cases c1:decide (s=[])
   ·simp only[cf57L0,cf57M0,c1,go_sem,seval]
   ·simp only[cf57L0,cf57M0,c1,go_sem,seval]
  ·rintro d c r hp hes hI
   rw[hes]at hb hI
   have hw:=aM hb
   rw[hes]
   have hnm:nm true (d++c::r)=((fJ c||(!d.isEmpty&&bA c))&&nm false r):=hI
   have hde:decide ((d.length:Int)=0)=d.isEmpty:=by
    cases d with
    |nil=>simp
    |cons x r=>simp;omega
   have happ:(d++[c]).isEmpty=false:=by simp
   have hlet:fJ c=(!(decide ((c.toNat:Int)<97)) && !(decide ((122:Int)<c.toNat))):=by
    simp only[fJ]
    by_cases h1:97<=c.toNat<;>by_cases h2:c.toNat<=122<;>simp[h1,h2]<;>omega
   have hdig:bA c=(!(decide ((c.toNat:Int)<48)) && !(decide ((57:Int)<c.toNat))):=by
    simp only[bA]
    by_cases h1:48<=c.toNat<;>by_cases h2:c.toNat<=57<;>simp[h1,h2]<;>omega
   rw[hlet,hdig]at hnm
   clear hlet hdig hI hes a91 hu hh hb'
   cases e1:decide ((c.toNat:Int)<97)<;>cases e2:decide ((122:Int)<c.toNat)<;>cases e3:d.isEmpty<;>cases e4:decide ((c.toNat:Int)<48)<;>cases e5:decide ((57:Int)<c.toNat)
   all_goals (rw[e1,e2,e3,e4,e5]at hnm)
   all_goals (rw[e3]at hde)
   all_goals (simp only[Bool.not_true,Bool.not_false,Bool.and_true,Bool.and_false,Bool.or_true,Bool.or_false,Bool.true_and,Bool.false_and]at hnm)
   all_goals (rw[hnm])
   all_goals (simp only[cf57L0,cf57M0,e1,e2,hde,e4,e5,hw,happ,go_sem,seval])
end
end Go.Tev
end
section
namespace Go.Tev
open Go.Sort
theorem BU(x:Int):∀l,(xD x l).Perm (x::l)
 |[]=>List.Perm.refl _
 |y::r=>by
  simp only[xD]
  split
  ·exact List.Perm.refl _
  ·exact((BU x r).cons y).trans (List.Perm.swap x y r)
theorem yD:∀l,(jE l).Perm l
 |[]=>List.Perm.refl _
 |x::r=>(BU x _).trans ((yD r).cons x)
theorem wS(x:Int):∀l:List Int,l.Pairwise (· <= ·)->(xD x l).Pairwise (· <= ·)
 |[],_=>by simp[xD]
 |y::r,h=>by
  simp only[xD]
  rw[List.pairwise_cons]at h
  split
  ·rename_i hxy
   rw[List.pairwise_cons]
   refine⟨?_,List.pairwise_cons.2 h⟩
   intro a ha
   rcases List.mem_cons.1 ha with rfl|ha
   ·exact hxy
   ·exact Int.le_trans hxy (h.1 a ha)
  ·rename_i hxy
   rw[List.pairwise_cons]
   refine⟨?_,wS x r h.2⟩
   intro a ha
   rcases (yX x a r).1 ha with rfl|ha
   ·omega
   ·exact h.1 a ha
theorem pE:∀l:List Int,(jE l).Pairwise (· <= ·)
 |[]=>List.Pairwise.nil
 |x::r=>wS x _ (pE r)
theorem sC:∀{a b:List Int},a.Perm b->a.Pairwise (· <= ·)->b.Pairwise (· <= ·)->a=b
 |[],b,h,_,_=>(List.Perm.nil_eq h)
 |x::r,[],h,_,_=>absurd h.symm.nil_eq (by simp)
 |x::r,y::s,h,ha,hb=>by
  rw[List.pairwise_cons]at ha hb
  have h1:x<=y:=by
   have:y∈x::r:=h.symm.subset (by simp)
   rcases List.mem_cons.1 this with rfl|hy
   ·exact Int.le_refl _
   ·exact ha.1 y hy
  have h2:y<=x:=by
   have:x∈y::s:=h.subset (by simp)
   rcases List.mem_cons.1 this with rfl|hx
   ·exact Int.le_refl _
   ·exact hb.1 x hx
  obtain rfl:x=y:=by omega
  rw[sC (List.Perm.cons_inv h) ha.2 hb.2]
theorem L7(l:List Int):(l.mergeSort fun x y=>decide (x<=y))=jE l:=by
 refine sC ((List.mergeSort_perm l _).trans (yD l).symm) ?_ (pE l)
 have:=List.pairwise_mergeSort (le:=fun x y:Int=>decide (x<=y)) (by intro a b c h1 h2;simp at *;omega) (by intro a b;simp;omega) l
 exact this.imp (by intro a b h;simpa using h)
theorem zZ(x:Int):∀l:List Int,d7 (l++[x])=d7 l++(if l.getLast?=some x then [] else [x])
 |[]=>by simp[d7]
 |[a]=>by
  simp only[List.cons_append,List.nil_append,d7,List.getLast?_singleton,Option.some.injEq]
  split<;>simp[*]
 |a::b::r=>by
  have ih:=zZ x (b::r)
  simp only[List.cons_append]at ih ⊢
  simp only[d7,ih,List.getLast?_cons_cons]
  split<;>simp
theorem uU(zs:List Int):∀m,m<=zs.length->Lib.compactUpTo zs.toArray m=d7 (zs.take m)
 |0,_=>by simp[Lib.compactUpTo,d7]
 |m+1,h=>by
  have ih:=uU zs m (by omega)
  have hm:zs.toArray[m]! = zs[m]'(by omega):=by rw[getElem!_pos _ _ (by simp;omega)];simp
  rw[List.take_succ_eq_append_getElem (by omega),zZ,<-ih]
  simp only[Lib.compactUpTo,List.range_succ,List.filter_append,List.map_append]
  congr 1
  cases m with
  |zero=>
   simp[Lib.keeps,hm]
   rw[List.getElem?_eq_getElem (by omega)]
   rfl
  |succ k=>
   have hk:zs.toArray[k]! = zs[k]'(by omega):=by rw[getElem!_pos _ _ (by simp;omega)];simp
   have hl:(zs.take (k+1)).getLast?=some (zs[k]'(by omega)):=by
    rw[List.take_succ_eq_append_getElem (by omega)]
    exact List.getLast?_concat
   simp only[List.filter_cons,List.filter_nil,Lib.keeps,hm,hl]
   by_cases he:zs[k+1]'(by omega)=zs[k]'(by omega)
   ·simp[hk,he]
   ·have he':¬zs[k]'(by omega)=zs[k+1]'(by omega):=fun h=>he h.symm
    simp[hk,he,he',hm]
    rw[List.getElem?_eq_getElem (by omega)]
    rfl
theorem H9(zs:List Int):Lib.compact zs=d7 zs:=by
 rw[Lib.compact,uU zs zs.length (Nat.le_refl _),List.take_length]
theorem rJ:∀(f u:Nat),u<10 ^ f->Lib.decDigits u=kJ f u\/f=0
 |0,u,_ => .inr rfl
 |f+1,u,h=>by
  left
  rw[kJ,Lib.decDigits]
  by_cases h1:u<10
  ·rw[dif_pos h1,if_pos h1]
  ·rw[dif_neg h1,if_neg h1]
   rcases rJ f (u / 10) (by rw[Nat.pow_succ]at h;omega) with h2|h2
   ·rw[h2]
   ·subst h2;simp at h;omega
theorem KT{n:Int}(h0:0<=n)(h1:n<=9223372036854775807):Lib.itoa n=kJ 20 n.toNat:=by
 rw[Lib.itoa,if_neg (by omega)]
 rcases rJ 20 n.toNat (by omega) with h|h
 ·exact h
 ·cases h
section
variable{P:Program}{num:Nm}{gl:Nat->Option AV}{aQ:Nat->Nat}{Fb:Nat->Prop}{B0:Nat}{ρ : Rho}{w w':World}{O:Nat->Prop}{h:Hp}
theorem mM(H:HpR num Fb B0 ρ w O h)(hb:RowKit.Below w.heap.size w w'):Evo ρ w O ρ w' O/\HpR num Fb B0 ρ w' O h:=by
 have ev:Evo ρ w O ρ w' O:=⟨hb.os,hb.tape,hb.output,hb.size,fun b h1 _=>hb.block b h1,fun _ _ h=>h,fun _ _ _ h=>h⟩
 exact⟨ev,H.same ev (fun b hO=>hb.block b (H.own b hO).2)⟩
def AR (P:Program) (f:Nat):Prop:=∃fn,P.funcs[f]?=some fn/\fn.body.isSome=true/\fn.name ≠ "runtime.NumGoroutine"
theorem kM{R:AV->Value->Prop}{x:AV}{vs:List Value}(h:aL R [x] vs):∃c,vs=[c]/\R x c:=by
 cases h with
 |cons h1 h2=>cases h2;exact⟨_,rfl,h1⟩
theorem TI(hfn:AR P (num 93))(g:Nat)(hg:gl g=some (.agg (Lib.pow10Tab.map fun n => .int .u64 n)))
  (hc:∀(n:Int),0<=n->n<=9223372036854775807->∀w:World,(∃T fr,w.heap[aQ g]?=some (.cells (Lib.pow10Tab.map fun z=>Value.int .u64 z).toArray T fr)) ->
   Calls P (num 93) #[.int .i64 n] w fun e w'=>e = .returned (.string ⟨(Lib.itoa n).toArray⟩)/\RowKit.Below w.heap.size w w') :
  hQ P num gl aQ ⟨fun f' avs kb h=>if f'=93 then rI avs kb h else none,fun _ _ _ _=>none⟩:=by
 intro f avs kb h r h' hr
 dsimp only at hr
 split at hr
 case isFalse=>cases hr
 rename_i hf
 subst hf
 refine⟨hfn,?_⟩
 intro Fb B0 ρ O w vs H hG hv
 unfold rI at hr
 split at hr
 case h_2=>cases hr
 rename_i n
 split at hr
 case isFalse=>cases hr
 rename_i hn
 cases hr
 obtain⟨c,rfl,hrv⟩:=kM hv
 cases hrv
 have htab:∃T fr,w.heap[aQ g]?=some (.cells (Lib.pow10Tab.map fun z=>Value.int .u64 z).toArray T fr):=by
  obtain⟨⟨_,c,T,fr,h1,h2⟩,hp⟩:=hG g _ hg
  refine⟨T,fr,?_⟩
  rw[h1]
  have hsz:c.size=Lib.pow10Tab.length:=by rw[h2];simp[AV.cells]
  have hce:c=(Lib.pow10Tab.map fun z=>Value.int .u64 z).toArray:=by
   apply Array.ext
   ·simp[hsz]
   ·intro i hi1 hi2
    obtain⟨b,off,m,hx,hF,hb,hm,hr⟩:=hp.of_fp
    cases hx
    have hil:i<Lib.pow10Tab.length:=by omega
    have h3:=hm i (by simp only[AV.cells,List.length_map];exact hil)
    have h4:=hr i (.int .u64 (Lib.pow10Tab[i]'hil)) (by simp only[AV.cells,List.getElem?_map,List.getElem?_eq_getElem hil];rfl)
    rw[Nat.zero_add]at h3
    simp only[World.cell?,h1,Option.isSome_none,Bool.false_eq_true,if_false,Array.getElem?_eq_getElem hi1,Option.some.injEq]at h3
    rw[<-h3]at h4
    have h5:=h4.of_int
    rw[h5]
    simp
  rw[hce]
 refine(hc n hn.1 hn.2 w htab).mono ?_
 rintro e w' ⟨rfl,hb⟩
 obtain⟨ev,H'⟩:=mM H hb
 refine⟨_,ρ,O,rfl,ev,H',?_⟩
 rw[KT hn.1 hn.2]
 exact .str _
theorem UC(hfn:AR P (num 92))(g1 g2:Nat)(hg1:gl g1=some (.ifc .top))(hg2:gl g2=some (.ifc .top))
  (hok:∀(s:List UInt8),s.length<=16777216->∀v,Lib.atoiAll s = .ok v->∀w:World,Calls P (num 92) #[.string ⟨s.toArray⟩] w fun e w'=>e = .returned (.tuple #[.int .i64 v,.nilIface])/\RowKit.Below w.heap.size w w')
  (hsy:∀(s:List UInt8),s.length<=16777216->(∀v,Lib.atoiAll s ≠ .ok v)->Lib.atoiAll s ≠ .range->∀(w:World)(te:TypeId)(pe:Value),w.cell? ⟨aQ g1,0,none⟩=some (.iface te pe) ->
   Calls P (num 92) #[.string ⟨s.toArray⟩] w fun e w'=>∃t p,e = .returned (.tuple #[.int .i64 0,.iface t p])/\RowKit.Below w.heap.size w w')
  (hra:∀(s:List UInt8),s.length<=16777216->Lib.atoiAll s = .range->∀(w:World)(te:TypeId)(pe:Value),w.cell? ⟨aQ g2,0,none⟩=some (.iface te pe) ->
   Calls P (num 92) #[.string ⟨s.toArray⟩] w fun e w'=>∃t p,e = .returned (.tuple #[.int .i64 (Lib.atoiSat s),.iface t p])/\RowKit.Below w.heap.size w w') :
  hQ P num gl aQ ⟨fun f' avs kb h=>if f'=92 then tG avs kb h else none,fun _ _ _ _=>none⟩:=by
 intro f avs kb h r h' hr
 dsimp only at hr
 split at hr
 case isFalse=>cases hr
 rename_i hf
 subst hf
 refine⟨hfn,?_⟩
 intro Fb B0 ρ O w vs H hG hv
 have hcell:∀g,gl g=some (.ifc .top)->∃te pe,w.cell? ⟨aQ g,0,none⟩=some (.iface te pe):=by
  intro g hg
  obtain⟨_,hp⟩:=hG g _ hg
  cases hp with
  |fp _ _ _ c hF hb hm hr=>
   have h1:=hm 0 (by simp[AV.cells])
   have h2:=hr 0 (.ifc .top) (by simp[AV.cells])
   simp only[Nat.add_zero]at h1
   rw[h1]
   generalize c 0=ci at h2 ⊢
   cases h2
   exact⟨_,_,rfl⟩
 unfold tG at hr
 split at hr
 case h_2=>cases hr
 rename_i s
 split at hr
 case isFalse=>cases hr
 rename_i hs
 obtain⟨c,rfl,hrv⟩:=kM hv
 cases hrv
 split at hr
 ·rename_i v ha
  cases hr
  refine(hok s hs v ha w).mono ?_
  rintro e w' ⟨rfl,hb⟩
  obtain⟨ev,H'⟩:=mM H hb
  refine⟨_,ρ,O,rfl,ev,H',?_⟩
  refine .tup _ _ rfl ?_
  intro i x y hx hy
  match i,hx,hy with
  |0,hx,hy=>simp at hx hy;subst hx;subst hy;exact .int _ _
  |1,hx,hy=>simp at hx hy;subst hx;subst hy;exact .nili
  |i+2,hx,hy=>simp at hx
 ·rename_i ha
  cases hr
  obtain⟨te,pe,hce⟩:=hcell g2 hg2
  refine(hra s hs ha w te pe hce).mono ?_
  rintro e w' ⟨t,p,rfl,hb⟩
  obtain⟨ev,H'⟩:=mM H hb
  refine⟨_,ρ,O,rfl,ev,H',?_⟩
  refine .tup _ _ rfl ?_
  intro i x y hx hy
  match i,hx,hy with
  |0,hx,hy=>simp at hx hy;subst hx;subst hy;exact .int _ _
  |1,hx,hy=>simp at hx hy;subst hx;subst hy;exact .ifc _ _ _ (.top _)
  |i+2,hx,hy=>simp at hx
 ·rename_i ha1 ha2
  cases hr
  obtain⟨te,pe,hce⟩:=hcell g1 hg1
  refine(hsy s hs (fun v e=>ha1 v e) (fun e=>ha2 e) w te pe hce).mono ?_
  rintro e w' ⟨t,p,rfl,hb⟩
  obtain⟨ev,H'⟩:=mM H hb
  refine⟨_,ρ,O,rfl,ev,H',?_⟩
  refine .tup _ _ rfl ?_
  intro i x y hx hy
  match i,hx,hy with
  |0,hx,hy=>simp at hx hy;subst hx;subst hy;exact .int _ _
  |1,hx,hy=>simp at hx hy;subst hx;subst hy;exact .ifc _ _ _ (.top _)
  |i+2,hx,hy=>simp at hx
theorem vN:∀{cs:List AV}{zs:List Int},pR cs=some zs->cs=zs.map aG
 |[],zs,h=>by simp[pR]at h;subst h;rfl
 |x::r,zs,h=>by
  cases x with
  |int k n=>
   cases k<;>simp only[pR]at h
   case i64=>
    simp only[Option.map_eq_some_iff]at h
    obtain⟨l,h1,rfl⟩:=h
    rw[vN h1];rfl
   all_goals cases h
  |_=>simp[pR]at h
end
end Go.Tev
end
section
namespace Go.Tev
open Go.Sort
section
variable{P:Program}{num:Nm}{gl:Nat->Option AV}{aQ:Nat->Nat}{Fb:Nat->Prop}{B0:Nat}{ρ : Rho}{w w':World}{O:Nat->Prop}{h:Hp}
theorem Rv.int_eq{F:Nat->Prop}{n:Int}{y:Value}(h:Rv num ρ w F (aG n) y):y = .int .i64 n:=by
 have h':Rv num ρ w F (.int .i64 n) y:=h
 cases h';rfl
theorem yK{k e off len:Nat}{cs:List AV}{esz:Nat}{ag ti fz:Bool}{L:Loc}{zs:List Int}(H:HpR num Fb B0 ρ w O h)(hg:h.get k=some (e,.blk cs esz ag ti fz))(hL : ρ k e=some L)
  (hz:(cs.drop off).take len=zs.map aG) (hl:off+len<=cs.length):Holds (Value.int .i64) w L.b (L.base+off) zs.toArray/\L.b<w.heap.size/\zs.length=len:=by
 obtain⟨L0,c,T,h1,h2,h3,h4,h5,h6,h7,h8,h9,h10⟩:=H.blk _ _ _ _ _ _ _ hg
 rw[h1]at hL;cases hL
 have hzl:zs.length=len:=by
  have:=congrArg List.length hz
  simp at this;omega
 refine⟨?_,?_,hzl⟩
 ·intro j hj
  have hj':j<zs.length:=by simpa using hj
  have hx:cs[off+j]?=some (aG (zs[j]'hj')):=by
   have:=congrArg (fun l:List AV=>l[j]?) hz
   simp only[List.getElem?_map,List.getElem?_take,List.getElem?_drop,List.getElem?_eq_getElem hj',Option.map_some]at this
   rw[if_pos (by omega)]at this
   exact this
  obtain⟨y,hy,hr⟩:=h7 _ _ hx
  have hy2:=hr.int_eq
  subst hy2
  refine⟨?_,?_⟩
  ·simp only[World.cell?,h4,Option.isSome_none,Bool.false_eq_true,if_false]
   rw[Nat.add_assoc,hy,getElem!_pos zs.toArray j hj]
   simp
  ·simp[World.frozen?,h4]
 ·by_cases hlt:L.b<w.heap.size
  ·exact hlt
  ·simp[Array.getElem?_eq_none (Nat.le_of_not_lt hlt)]at h4
theorem GR{k e off len n:Nat}{cs:List AV}{esz:Nat}{ag ti:Bool}{L:Loc}{zs:List Int}(H:HpR num Fb B0 ρ w O h)(hg:h.get k=some (e,.blk cs esz ag ti false))(hL : ρ k e=some L)
  (hz:zs.length=len) (hl:off+len<=cs.length) :
  Evo ρ w O ρ (putRow (Value.int .i64) (Sort.ahead w n) L.b (L.base+off) zs.toArray) O/\HpR num Fb B0 ρ (putRow (Value.int .i64) (Sort.ahead w n) L.b (L.base+off) zs.toArray) O (h.put k e (.blk (dJ cs off (zs.map aG)) esz ag ti false)):=by
 obtain⟨L0,c,T,h1,h2,h3,h4,h5,h6,h7,h8,h9,h10⟩:=H.blk _ _ _ _ _ _ _ hg
 rw[h1]at hL;cases hL
 have hget:∀i,(putCells (Value.int .i64) (L.base+off) zs.toArray c)[i]?=(c[i]?).map fun x=>if L.base+off<=i/\i<L.base+off+zs.length then .int .i64 zs.toArray[i-(L.base+off)]! else x:=by
  intro i
  simp only[putCells,Array.getElem?_mapIdx,List.size_toArray]
 refine H.write (c':=putCells (Value.int .i64) (L.base+off) zs.toArray c) (T:=T) hg h1 ⟨rfl,rfl,rfl,?_,?_,?_⟩ ?_ ?_ ?_
 ·simp[putRow,mapBlock,Sort.ahead]
 ·simp only[putRow,mapBlock,Sort.ahead,Array.getElem?_modify,if_true,h4,Option.map_some,onCells]
 ·intro b hb
  simp only[putRow,mapBlock,Sort.ahead,Array.getElem?_modify]
  rw[if_neg (fun h=>hb h.symm)]
 ·simp only[putCells,Array.size_mapIdx];exact h5
 ·simp only[dJ,List.length_append,List.length_take,List.length_drop,List.length_map];omega
 ·intro i x hx
  rw[hget]
  simp only[dJ,List.append_assoc]at hx
  by_cases hi1:i<off
  ·rw[List.getElem?_append_left (by simp;omega),List.getElem?_take,if_pos hi1]at hx
   obtain⟨y,hy,hr⟩:=h7 _ _ hx
   refine⟨y,?_,hr⟩
   rw[hy,Option.map_some,if_neg (by omega)]
  ·rw[List.getElem?_append_right (by simp;omega)]at hx
   have htk:(cs.take off).length=off:=by simp;omega
   rw[htk]at hx
   by_cases hi2:i<off+len
   ·rw[List.getElem?_append_left (by simp;omega),List.getElem?_map]at hx
    have hlt:i-off<zs.length:=by omega
    rw[List.getElem?_eq_getElem hlt,Option.map_some]at hx
    cases hx
    have hcs:i<cs.length:=by omega
    obtain⟨y,hy,_⟩:=h7 i _ (List.getElem?_eq_getElem hcs)
    refine⟨_,by rw[hy,Option.map_some,if_pos (by omega)],?_⟩
    have e1:L.base+i-(L.base+off)=i-off:=by omega
    rw[e1,getElem!_pos zs.toArray (i-off) (by simpa using hlt)]
    simp only[List.getElem_toArray]
    exact .int _ _
   ·rw[List.getElem?_append_right (by simp;omega),List.getElem?_drop]at hx
    have e2:off+(zs.map aG).length+(i-off-(zs.map aG).length)=i:=by simp;omega
    rw[e2]at hx
    obtain⟨y,hy,hr⟩:=h7 _ _ hx
    refine⟨y,?_,hr⟩
    rw[hy,Option.map_some,if_neg (by omega)]
theorem zF(w:World)(os:Array Obj):RowKit.Below w.heap.size w (grow w os) where
 os:=rfl
 tape:=rfl
 output:=rfl
 size:=by simp[grow]
 block:=fun k hk=>by simp[grow,Array.getElem?_append_left hk]
theorem R3(hfn:AR P (num 75))
  (hc:∀(blk off cap:Nat)(zs:List Int)(w:World),Holds (Value.int .i64) w blk off zs.toArray->blk<w.heap.size->zs.length<=16777216 ->
   Calls P (num 75) #[.slice (some ⟨blk,off,none⟩) zs.length cap] w fun e w'=>e = .returned (.tuple #[])/\∃n os,w'=grow (putRow (Value.int .i64) (Sort.ahead w n) blk off (jE zs).toArray) os)
  (hn:∀(p:Option Addr)(cap:Nat)(w:World),Calls P (num 75) #[.slice p 0 cap] w fun e w'=>e = .returned (.tuple #[])/\w'=w) :
  hQ P num gl aQ ⟨fun f' avs kb h=>if f'=75 then vU avs kb h else none,fun _ _ _ _=>none⟩:=by
 intro f avs kb h r h' hr
 dsimp only at hr
 split at hr
 case isFalse=>cases hr
 rename_i hf
 subst hf
 refine⟨hfn,?_⟩
 intro Fb B0 ρ O w vs H hG hv
 have htup:∀{ρ : Rho}{w:World}{F:Nat->Prop},Rv num ρ w F (.tup []) (.tuple #[]):=.tup _ _ rfl (fun i x y hx=>by simp at hx)
 unfold vU at hr
 split at hr
 ·cases hr
  obtain⟨c,rfl,hrv⟩:=kM hv
  have:∃p cap,c = .slice p 0 cap:=by cases hrv<;>exact⟨_,_,rfl⟩
  obtain⟨p,cap,rfl⟩:=this
  refine(hn p cap w).mono ?_
  rintro e w' ⟨rfl,rfl⟩
  exact⟨_,ρ,O,rfl,Evo.refl _ _ _,H,htup⟩
 ·rename_i k e off len cap
  split at hr
  case h_2=>cases hr
  rename_i e' cs ti hg
  split at hr
  case isFalse=>cases hr
  rename_i hcond
  obtain⟨rfl,hle,hbig⟩:=hcond
  split at hr
  case h_2=>cases hr
  rename_i zs hzs
  cases hr
  obtain⟨c,rfl,hrv⟩:=kM hv
  cases hrv with
  |rf _ _ _ _ _ cap' L hL hlen hcap ht hroom=>
   obtain⟨hH,hb,hzl⟩:=yK H hg hL (vN hzs) hle
   have hcall:=hc L.b (L.base+off) cap' zs w hH hb (by omega)
   rw[hzl]at hcall
   refine hcall.mono ?_
   rintro e w' ⟨rfl,n,os,rfl⟩
   obtain⟨ev,H1⟩:=GR (n:=n) H hg hL (zs:=jE zs) (by rw[kX];exact hzl) hle
   obtain⟨ev2,H2⟩:=mM H1 (zF _ os)
   exact⟨_,ρ,O,rfl,ev.trans ev2,H2,htup⟩
 ·cases hr
theorem TZ(hfn:AR P (num 76))
  (hc:∀(blk off cap:Nat)(zs:List Int)(w:World),Holds (Value.int .i64) w blk off zs.toArray->zs.length<=16777216->zs.length<=cap ->
   Calls P (num 76) #[.slice (some ⟨blk,off,none⟩) zs.length cap] w fun e w'=>e = .returned (.slice (some ⟨blk,off,none⟩) (d7 zs).length cap)/\∃q,w'=putRow (Value.int .i64) (Sort.ahead w q) blk off (d7 zs++List.replicate (zs.length-(d7 zs).length) 0).toArray)
  (hn:∀(p:Option Addr)(cap:Nat)(w:World),Calls P (num 76) #[.slice p 0 cap] w fun e w'=>e = .returned (.slice p 0 cap)/\w'=w) :
  hQ P num gl aQ ⟨fun f' avs kb h=>if f'=76 then vV avs kb h else none,fun _ _ _ _=>none⟩:=by
 intro f avs kb h r h' hr
 dsimp only at hr
 split at hr
 case isFalse=>cases hr
 rename_i hf
 subst hf
 refine⟨hfn,?_⟩
 intro Fb B0 ρ O w vs H hG hv
 unfold vV at hr
 split at hr
 ·cases hr
  obtain⟨c,rfl,hrv⟩:=kM hv
  have:∃p cap,c = .slice p 0 cap:=by cases hrv<;>exact⟨_,_,rfl⟩
  obtain⟨p,cap,rfl⟩:=this
  refine(hn p cap w).mono ?_
  rintro e w' ⟨rfl,rfl⟩
  exact⟨_,ρ,O,rfl,Evo.refl _ _ _,H,hrv⟩
 ·rename_i k e off len cap
  split at hr
  case h_2=>cases hr
  rename_i e' cs ti hg
  split at hr
  case isFalse=>cases hr
  rename_i hcond
  obtain⟨rfl,hle,hbig⟩:=hcond
  split at hr
  case h_2=>cases hr
  rename_i zs hzs
  cases hr
  obtain⟨c,rfl,hrv⟩:=kM hv
  cases hrv with
  |rf _ _ _ _ _ cap' L hL hlen hcap ht hroom=>
   obtain⟨hH,hb,hzl⟩:=yK H hg hL (vN hzs) hle
   have hcl:=oZ zs
   have hcall:=hc L.b (L.base+off) cap' zs w hH (by omega) (by omega)
   rw[hzl]at hcall
   refine hcall.mono ?_
   rintro e w' ⟨rfl,n,rfl⟩
   have hln:(d7 zs++List.replicate (zs.length-(d7 zs).length) 0).length=len:=by simp;omega
   obtain⟨ev,H1⟩:=GR (n:=n) H hg hL hln hle
   rw[hzl]at ev H1 ⊢
   exact⟨_,ρ,O,rfl,ev,H1,.rf _ _ _ _ _ cap' L hL (by omega) hcap ht hroom⟩
 ·cases hr
end
end Go.Tev
end
section
namespace Go.Tev
def rE(op:List UInt8):Bool:=decide (op=[108,116])||decide (op=[108,101])||decide (op=[103,116])||decide (op=[103,101])||decide (op=[101,113])||decide (op=[110,101])
def MF:List Bool->Bool
 |[_,b,c]=>b&&c
 |_=>false
def eW(op:List UInt8)(kids:List Bool):Bool:=
 if rE op then decide ((kids.length:Int)=2)
 else if decide (op=[115,101,108,101,99,116]) then MF kids
 else match iI op with
  |none=>false
  |some p=>decide (p.result=[98,111,111,108])&&decide ((p.params.length:Int)=(kids.length:Int)) && !kids.any (fun b=>b==false)
theorem El.bools(l:List Bool):∀x∈l.map AV.bool,El 1 false x:=by
 intro x hx
 simp only[List.mem_map]at hx
 obtain⟨y,_,rfl⟩:=hx
 exact⟨rfl,rfl,rfl⟩
theorem lM(l:List Bool):Tev.treeL (l.map AV.bool)=true:=bK (f:=AV.bool) (fun _=>rfl) l
theorem xZ(l:List (List UInt8)):Tev.treeL (l.map AV.str)=true:=bK (f:=AV.str) (fun _=>rfl) l
attribute [go_sem] lM xZ
section
variable{pg:Pg}
theorem c178(hf:pg.fs 178=some cf178)(nl cl:Bool)(es:List Bool)(hb:es.length<=big)(v:Bool) :
  bJ pg 178 [.sl nl (es.map AV.bool) cl,.bool v] (fun r=>∃i:Int,r = .int .i64 i/\decide (0<=i)=es.any (fun b=>v==b)):=
 C5 (f:=178) (k:=.beq false) hf AV.bool (fun _=>rfl) nl cl es hb (.bool v) (fun b=>v==b) (by intro kb s h x Q t;simp only[go_sem,seval])
theorem c141(hf:pg.fs 141=some cf141)(h178:pg.fs 178=some cf178)(nl cl:Bool)(es:List Bool)(hb:es.length<=big)(v:Bool) :
  Ret pg 141 [.sl nl (es.map AV.bool) cl,.bool v] (.bool (es.any (fun b=>v==b))):=
 mE (n:=178) hf (by simp only[treeL,mB,AY,lM,Bool.and_true]) (c178 h178 nl cl es hb v)
set_option maxHeartbeats 1000000 in
theorem c102(hf:pg.fs 102=some cf102)(h140:∀op,bJ pg 140 [.str op] (iQ op))(h141:pg.fs 141=some cf141)(h178:pg.fs 178=some cf178)(op:List UInt8)(nl cl:Bool)(kids:List Bool)(hb:kids.length<=big) :
  Ret pg 102 [.str op,.sl nl (kids.map AV.bool) cl] (.bool (eW op kids)):=by
 have k1:=c141 h141 h178 nl cl kids hb false
 refine Ret.ofX hf ?_
 unfold cf102
 cases hc:rE op
 case true=>
  have hs:eW op kids=decide ((kids.length:Int)=2):=by simp[eW,hc]
  rw[hs]
  clear h140 h141 h178 k1
  repeat' (first|simp only[*,go_sem,seval]|refine aN (fun _=>?_) (fun _=>?_)|refine aO (fun _=>?_) (fun _=>?_)|refine And.intro (by kernel_rfl) ?_)
  all_goals (exfalso;simp_all [rE])
 simp only[rE,Bool.or_eq_false_iff]at hc
 obtain⟨⟨⟨⟨⟨q1,q2⟩,q3⟩,q4⟩,q5⟩,q6⟩:=hc
 cases hsel:decide (op=[115,101,108,101,99,116])
 case true=>
  have hs:eW op kids=MF kids:=by
   unfold eW
   rw[if_neg (by simp only[rE,q1,q2,q3,q4,q5,q6];decide),if_pos hsel]
  rw[hs]
  clear h140 h141 h178 k1
  match kids,hb with
  |[],_=>
   repeat' (first|simp only[*,go_sem,seval]|refine aN (fun _=>?_) (fun _=>?_)|refine aO (fun _=>?_) (fun _=>?_)|refine And.intro (by kernel_rfl) ?_)
   all_goals rfl
  |[a],_=>
   repeat' (first|simp only[*,go_sem,seval]|refine aN (fun _=>?_) (fun _=>?_)|refine aO (fun _=>?_) (fun _=>?_)|refine And.intro (by kernel_rfl) ?_)
   all_goals rfl
  |[a,b],_=>
   repeat' (first|simp only[*,go_sem,seval]|refine aN (fun _=>?_) (fun _=>?_)|refine aO (fun _=>?_) (fun _=>?_)|refine And.intro (by kernel_rfl) ?_)
   all_goals rfl
  |[a,b,c],_=>
   have e3:(((3:Nat):Int))=3:=rfl
   have t1:(1:Int).toNat=1:=rfl
   have t2:(2:Int).toNat=2:=rfl
   have z1:((0:Int)<=1)=True:=by simp
   have z2:((0:Int)<=2)=True:=by simp
   repeat' (first|simp only[*,go_sem,seval]|refine aN (fun _=>?_) (fun _=>?_)|refine aO (fun _=>?_) (fun _=>?_)|refine And.intro (by kernel_rfl) ?_)
   all_goals (simp_all [MF])
  |a::b::c::d::r,hb=>
   have h3:decide (((((r.length+1+1+1+1):Nat):Int))=3)=false:=by simp;omega
   repeat' (first|simp only[*,go_sem,seval]|refine aN (fun _=>?_) (fun _=>?_)|refine aO (fun _=>?_) (fun _=>?_)|refine And.intro (by kernel_rfl) ?_)
   all_goals rfl
 have hspec:eW op kids=match iI op with
  |none=>false
  |some p=>decide (p.result=[98,111,111,108])&&decide ((p.params.length:Int)=(kids.length:Int)) && !kids.any (fun b=>b==false):=by
  unfold eW
  rw[if_neg (by simp only[rE,q1,q2,q3,q4,q5,q6];decide),if_neg (by rw[hsel];decide)]
 obtain⟨r,hr,hP⟩:=h140 op
 clear h140 h141 h178
 generalize eW op kids=res at hspec ⊢
 obtain⟨nl',cl',ps,rs,ok,rfl,hres⟩:∃nl cl,∃ps:List (List UInt8),∃rs ok,r = .tup [.sl nl (ps.map .str) cl,.str rs,.bool ok]/\res=(ok&&decide (rs=[98,111,111,108])&&decide ((ps.length:Int)=(kids.length:Int)) && !kids.any (fun b=>b==false)):=by
  unfold iQ at hP
  cases hp:iI op with
  |none=>
   rw[hp]at hP hspec
   exact⟨_,_,[],_,_,hP,by simp[hspec]⟩
  |some q=>
   rw[hp]at hP hspec
   obtain⟨nl,cl,hP⟩:=hP
   exact⟨_,_,q.params,_,_,hP,by simp[hspec]⟩
 clear hP hspec
 have htr:treeL (ps.map AV.str)=true:=xZ ps
 have htk:=lM kids
 repeat' (first|simp only[*,go_sem,seval]|refine aN (fun _=>?_) (fun _=>?_)|refine aO (fun _=>?_) (fun _=>?_)|(refine aB hr (by simp only[go_sem,seval]) rfl ?_)|(refine aB k1 (by simp only[go_sem,seval]) rfl ?_)|refine And.intro (by kernel_rfl) ?_)
 all_goals (clear hr k1 htr htk)
 all_goals (simp_all)
def pQ(op:List UInt8):Bool:=decide (op=[99,111,110,115,116])||decide (op=[116,114,117,116,104])
def lP(l:List Bool)(a:Int):Bool:=decide (0<=a)&&(decide (a<(l.length:Int))&&(l[a.toNat]?).getD false)
def lO(l:List Bool)(s:aJ):Bool:=if pQ s.op.bs then decide (s.num=0)||decide (s.num=1) else eW s.op.bs (s.args.es.map (lP l))
def lH(l:List Bool):List aJ->List Bool
 |[]=>l
 |s::r=>lH (l++[lO l s]) r
def dH(code:List aJ)(args:List Bool):Bool:=(lH args code).getLast?.getD false
theorem c103(hf:pg.fs 103=some cf103)(nl cl:Bool)(es:List AV)(hel:∀x∈es,El 1 false x)(hb:es.length<=big)(hnl:nl=true->es=[]):bJ pg 103 [.sl nl es cl] (kO 1 false es):=by
 refine bJ.ofX hf ?_
 unfold cf103
 simp only[go_sem,seval]
 cases nl
 ·simp only[go_sem,seval]
  refine fV (kb:=0) (s:=1) (bytes:=1) (es:=[]) (xs:=es) (Own.nil _ _ _ _ _ _ rfl) (by simp) hel ?_ (by decide) ?_
  ·simp only[List.length_nil,big]at *;omega
  ·intro v' rd pa ho hk hpa
   simp only[go_sem,seval]
   exact ho.conv (by simpa using hel)
 ·simp only[go_sem,seval]
  exact .inl ⟨hnl rfl,true,true,rfl,rfl⟩
def wE(h:Hp)(ks:List Nat)(v:AV)(es:List Bool):Prop:=∃k∈ks,Own h k 1 false v (es.map AV.bool)
theorem wE.mono{h h':Hp}{ks:List Nat}{v:AV}{es:List Bool}(o:wE h ks v es)(hh:∀k∈ks,h'.get k=h.get k):wE h' ks v es:=by
 obtain⟨k,hk,o⟩:=o
 exact⟨k,hk,o.mono (hh k hk)⟩
theorem cT:∀(l:List Bool),bG 1 false (l.map AV.bool)=some (l.map AV.bool)
 |[]=>rfl
 |x::r=>by
  have ih:=cT r
  rw[List.map_cons,bG,ih];rfl
theorem wE.at{h:Hp}{ks:List Nat}{v:AV}{es:List Bool}(o:wE h ks v es){n:Int}(h0:0<=n)(h1:n<es.length):∃k e,v = .rf k e 0 es.length es.length/\h.get k=some (e,.blk (es.map AV.bool) 1 false false false)/\k∈ks:=by
 obtain⟨k,hk,⟨he,nl,cl,rfl,hc⟩|⟨e,cs,rfl,hg,hu⟩⟩:=o
 ·have:es=[]:=by simpa using he
  subst this
  simp at h1;omega
 ·rw[cT]at hu
  cases hu
  exact⟨k,e,by simp,hg,hk⟩
theorem wE.len{h:Hp}{ks:List Nat}{v:AV}{es:List Bool}(o:wE h ks v es)(kb s:Nat)(h':Hp)(Q:AV->Eff->Prop)(t:Tok Q):XO pg kb (.len 1) s h' [v] Q t=Q (.int .i64 es.length) (.pat [] []):=by
 obtain⟨k,hk,⟨he,nl,cl,rfl,hc⟩|⟨e,cs,rfl,hg,hu⟩⟩:=o
 ·have:es=[]:=by simpa using he
  subst this
  simp only[go_sem,seval]
 ·rw[List.length_map]
  simp only[go_sem,seval]
theorem wE.flen{h:Hp}{ks:List Nat}{v:AV}{es:List Bool}(o:wE h ks v es)(h':Hp):FE h' 1 [v]=some (.int .i64 es.length,.pat [] []):=by
 obtain⟨k,hk,⟨he,nl,cl,rfl,hc⟩|⟨e,cs,rfl,hg,hu⟩⟩:=o
 ·have:es=[]:=by simpa using he
  subst this
  rfl
 ·rw[List.length_map];rfl
theorem oQ{h:Hp}{d:Nat}{a b b':AV}{keys:List Nat}(ha:a.tree=true)(hb:Tev.snap (d+1) h b=some (b',keys)):cG (Tev.snap (d+1) h) [a,b]=some ([a,b'],keys):=by
 simp[bB,bW,mD ha,hb]
theorem c64(hf:pg.fs 64=some cf64)(h103:pg.fs 103=some cf103)(h102:∀(op:List UInt8) (nl cl:Bool) (kids:List Bool),kids.length<=big->Ret pg 102 [.str op,.sl nl (kids.map AV.bool) cl] (.bool (eW op kids)))
  (nl cl:Bool) (code:List aJ) (hb:code.length<=16777216) (nl' cl':Bool) (args:List Bool) (hb':args.length<=16777216) (hnl:nl'=true->args=[]):Ret pg 64 [.sl nl (code.map aJ.av) cl,.sl nl' (args.map AV.bool) cl'] (.bool (dH code args)):=by
 refine Ret.ofX hf ?_
 unfold cf64
 simp only[go_sem,seval]
 refine wB (c103 h103 nl' cl' (args.map AV.bool) (El.bools args) (by simp[big];omega) (by intro h;simp[hnl h])) (by simp only[go_sem,seval]) (El.bools args) ?_
 intro v0 rd pa ho0 hk0 _
 simp only[go_sem,seval]
 refine aI code (fun d r env hp=>∃v l,env=cf64E1 v (.sl nl (code.map aJ.av) cl) (.int .i64 code.length) (.int .i64 d.length)/\wE hp [1,9,21] v l/\l.length=args.length+d.length/\lH args code=lH l r) ?_ ?_ ?_
 ·exact⟨v0,args,rfl,⟨1,by simp,ho0⟩,by simp,rfl⟩
 ·rintro env hp ⟨v,l,rfl,ho,hl,hI⟩
  have hlen:=ho.flen
  have hll:∀(l':List Bool)(b:Bool),(l'.length:Int)<((l'++[b]).length:Int):=by
   intro l' b;rw[List.length_append,List.length_singleton];omega
  simp only[lH]at hI
  have hsp:dH code args=l.getLast?.getD false:=by rw[dH,hI]
  rw[hsp]
  rcases List.eq_nil_or_concat l with rfl|⟨l',b,rfl⟩
  ·simp only[cf64L1,cf64E1,↓hlen,go_sem,seval]
   rfl
  ·rw[List.concat_eq_append]at *
   obtain⟨k,e,rfl,hg,_⟩:=ho.at (n:=(l'.length:Int)) (by omega) (hll l' b)
   have hw:wr .i64 (((l'++[b]).length:Int)-1)=(l'.length:Int):=by
    simp only[List.length_append,List.length_cons,List.length_nil]at *
    rw[aV (by omega) (by omega)];omega
   have hlt:decide ((0:Int)<((l'++[b]).length:Int))=true:=by have:=hll l' b;simp only[decide_eq_true_eq];omega
   have hlt2:((l'.length:Int)<((l'++[b]).length:Int))=True:=eq_true (hll l' b)
   have hgm:((l'++[b]).map AV.bool)[l'.length]?=some (.bool b):=by simp
   simp only[cf64L1,cf64E1,↓hlen,hlt,hw,hlt2,Nat.mul_one,Nat.zero_add,hg,go_sem,seval]
   simp
 ·rintro d x r env hp hes ⟨v,l,rfl,ho,hl,hI⟩
  subst hes
  have hks:∀k∈([1,9,21]:List Nat),k=1\/k=9\/k=21:=by simp
  have hd:d.length<=16777216:=by simp at hb;omega
  have hb2:(d++x::r).length<=big:=by simp only[big];omega
  simp only[lH]at hI
  cases hc:pQ x.op.bs
  case true=>
   have hst:lO l x=(decide (x.num=0)||decide (x.num=1)):=by simp[lO,hc]
   have hfin:∀(hp':Hp)(c:Bool),(∀k,k≠5->hp'.get k=hp.get k)->c=lO l x->∀(Q:AV->Eff->Prop)(t:Tok Q),
     (∀v' rd pa,wE (Eff.app hp' (.pat rd pa)) [1,9,21] v' (l++[lO l x])->Q v' (.pat rd pa))->XO pg 0 (.app 1 false 1) 9 hp' [v,.sl false [.bool c] true] Q t:=by
    intro hp' c hk hcc Q t hq
    obtain⟨k,hkm,ho'⟩:=ho
    refine pY (kb:=0) (s:=9) (k1:=k) (ho'.mono (hk k (by rcases hks k hkm with h|h|h<;>omega))) (El.bools l) (xs:=[.bool c]) (by intro y hy;simp at hy;subst hy;exact El.bool _) (by simp) (by simp;omega) (by omega) ?_
    intro v' rd pa ho2 _
    exact hq v' rd pa ⟨9,by simp,by simpa[hcc] using ho2⟩
   have hgp:∀o1 o2 k,k≠5->((hp.put 5 (hp.next 5) o1).put 5 (hp.next 5) o2).get k=hp.get k:=by
    intro o1 o2 k hk;rw[aH,if_neg (Ne.symm hk),aH,if_neg (Ne.symm hk)]
   have hor:decide (x.op.bs=[99,111,110,115,116])=true\/(decide (x.op.bs=[99,111,110,115,116])=false/\decide (x.op.bs=[116,114,117,116,104])=true):=by
    unfold pQ at hc
    cases h1:decide (x.op.bs=[99,111,110,115,116])
    ·rw[h1]at hc;exact .inr ⟨rfl,by simpa using hc⟩
    ·exact .inl rfl
   rcases hor with c1|⟨c1,c2⟩
   ·cases c3:decide (x.num=0)
    ·simp only[cf64L1,cf64E1,c1,c3,go_sem,seval]
     refine hfin _ _ (hgp _ _) (by rw[hst,c3];rfl) _ _ ?_
     intro v' rd pa ho2
     simp only[aM hb2,go_sem,seval]
     exact⟨v',_,rfl,ho2,by simp;omega,hI⟩
    ·simp only[cf64L1,cf64E1,c1,c3,go_sem,seval]
     refine hfin _ _ (hgp _ _) (by rw[hst,c3];rfl) _ _ ?_
     intro v' rd pa ho2
     simp only[aM hb2,go_sem,seval]
     exact⟨v',_,rfl,ho2,by simp;omega,hI⟩
   ·cases c3:decide (x.num=0)
    ·simp only[cf64L1,cf64E1,c1,c2,c3,go_sem,seval]
     refine hfin _ _ (hgp _ _) (by rw[hst,c3];rfl) _ _ ?_
     intro v' rd pa ho2
     simp only[aM hb2,go_sem,seval]
     exact⟨v',_,rfl,ho2,by simp;omega,hI⟩
    ·simp only[cf64L1,cf64E1,c1,c2,c3,go_sem,seval]
     refine hfin _ _ (hgp _ _) (by rw[hst,c3];rfl) _ _ ?_
     intro v' rd pa ho2
     simp only[aM hb2,go_sem,seval]
     exact⟨v',_,rfl,ho2,by simp;omega,hI⟩
  have hst:lO l x=eW x.op.bs (x.args.es.map (lP l)):=by simp[lO,hc]
  simp only[pQ,Bool.or_eq_false_iff]at hc
  obtain⟨c1,c2⟩:=hc
  have hxl:=x.args.ok
  simp only[cf64L1,cf64E1,c1,c2,go_sem,seval]
  have hlen:=ho.flen
  have hll:(l.length:Int)<=33554432:=by simp only[List.length_append,List.length_cons]at hb;omega
  have hgp:∀o1 o2 k,k≠5->((hp.put 5 (hp.next 5) o1).put 5 (hp.next 5) o2).get k=hp.get k:=by
   intro o1 o2 k hk;rw[aH,if_neg (Ne.symm hk),aH,if_neg (Ne.symm hk)]
  have hg5:∀o1 o2,((hp.put 5 (hp.next 5) o1).put 5 (hp.next 5) o2).get 5=some (hp.next 5,o2):=by
   intro o1 o2;rw[aH,if_pos rfl]
  generalize hH:(hp.put 5 (hp.next 5) (Ob.blk [AV.str [],AV.int IntKind.i64 0,AV.sl true [] true] 3 true true false)).put 5 (hp.next 5) (Ob.blk [AV.str x.op.bs,AV.int IntKind.i64 x.num,AV.sl x.args.nl (List.map aG x.args.es) x.args.cl] 3 true true false)=H
  have hH5:H.get 5=some (hp.next 5,Ob.blk [AV.str x.op.bs,AV.int IntKind.i64 x.num,AV.sl x.args.nl (List.map aG x.args.es) x.args.cl] 3 true true false):=by rw[<-hH];exact hg5 _ _
  have hHk:∀k,k≠5->H.get k=hp.get k:=by intro k hk;rw[<-hH];exact hgp _ _ k hk
  clear hgp hg5 hH
  refine aI x.args.es (fun d2 r2 env hp'=>∃v8,env=cf64E0 v (.pt 5 (hp.next 5) 0) v8 (.sl nl ((d++x::r).map aJ.av) cl) (.int .i64 (d++x::r).length) (.int .i64 d.length) (.sl x.args.nl (x.args.es.map aG) x.args.cl) (.int .i64 x.args.es.length) (.int .i64 d2.length) /\
   Own hp' 13 1 false v8 ((d2.map (lP l)).map AV.bool)/\∀k,k≠13->hp'.get k=H.get k) ?_ ?_ ?_
  ·exact⟨_,rfl,Own.nil _ _ _ _ _ _ rfl,fun _ _=>rfl⟩
  ·rintro env hp' ⟨v8,rfl,ho8,hfr⟩
   have hg5:=(hfr 5 (by omega)).trans hH5
   simp only[cf64L0,cf64E0,hg5,go_sem,seval]
   obtain⟨nl8,cl8,keys,hsn,hnl8⟩:=ho8.snap (El.bools _) 62
   have h2:=h102 x.op.bs nl8 cl8 (x.args.es.map (lP l)) (by simpa using hxl)
   rw[<-hst]at h2
   refine bQ h2 (oQ (by simp only[go_sem,seval]) hsn) (v:=.bool (lO l x)) (pa:=[]) rfl ?_
   simp only[go_sem,seval]
   obtain⟨k,hkm,ho'⟩:=ho
   have hk13:k≠13/\k≠5:=by rcases hks k hkm with h|h|h<;>omega
   refine pY (kb:=0) (s:=21) (k1:=k) (ho'.mono ?_) (El.bools l) (xs:=[.bool (lO l x)]) (by intro y hy;simp at hy;subst hy;exact El.bool _) (by simp) (by simp;omega) (by omega) ?_
   ·rw[hfr k hk13.1,hHk k hk13.2]
   ·intro v' rd pa ho2 _
    simp only[aM hb2,go_sem,seval]
    exact⟨v',_,rfl,⟨21,by simp,by simpa using ho2⟩,by simp;omega,hI⟩
  ·rintro d2 a r2 env hp' hes ⟨v8,rfl,ho8,hfr⟩
   have hb3:(d2++a::r2).length<=big:=by rw[<-hes];exact hxl
   have hfin:∀(c:Bool),c=lP l a->∀(Q:AV->Eff->Prop)(t:Tok Q),
     (∀v' rd pa,Own (Eff.app hp' (.pat rd pa)) 13 1 false v' (((d2++[a]).map (lP l)).map AV.bool)->(∀k,k≠13->(Eff.app hp' (.pat rd pa)).get k=H.get k)->Q v' (.pat rd pa))->XO pg 0 (.app 1 false 1) 13 hp' [v8,.sl false [.bool c] true] Q t:=by
    intro c hcc Q t hq
    refine fV (kb:=0) (s:=13) ho8 (El.bools _) (xs:=[.bool c]) (by intro y hy;simp at hy;subst hy;exact El.bool _) (by simp[big]at *;omega) (by omega) ?_
    intro v' rd pa ho2 hk _
    refine hq v' rd pa (by simpa[hcc] using ho2) (fun k hk13=>?_)
    rw[hk k (by omega),hfr k hk13]
   rw[hes]
   cases z1:decide (0<=a)
   ·simp only[cf64L0,cf64E0,z1,go_sem,seval]
    refine hfin _ (by simp[lP,z1]) _ _ ?_
    intro v' rd pa ho2 hk2
    simp only[aM hb3,go_sem,seval]
    exact⟨v',rfl,ho2,hk2⟩
   cases z2:decide (a<(l.length:Int))
   ·simp only[cf64L0,cf64E0,z1,z2,↓hlen,go_sem,seval]
    refine hfin _ (by simp[lP,z2]) _ _ ?_
    intro v' rd pa ho2 hk2
    simp only[aM hb3,go_sem,seval]
    exact⟨v',rfl,ho2,hk2⟩
   simp only[decide_eq_true_eq]at z1 z2
   obtain⟨k,e,hv,hg,hkm⟩:=ho.at z1 z2
   have hk13:k≠13/\k≠5:=by rcases hks k hkm with h|h|h<;>omega
   have hgk:hp'.get k=some (e,.blk (l.map AV.bool) 1 false false false):=by rw[hfr k hk13.1,hHk k hk13.2,hg]
   have hla:l[a.toNat]?=some (l[a.toNat]'(by omega)):=List.getElem?_eq_getElem (by omega)
   have z1':(0<=a)=True:=eq_true z1
   have z2':(a<(l.length:Int))=True:=eq_true z2
   have z3:decide (0<=a)=true:=decide_eq_true z1
   have z4:decide (a<(l.length:Int))=true:=decide_eq_true z2
   subst hv
   simp only[cf64L0,cf64E0,z3,z4,z1',z2',hgk,hla,Nat.mul_one,Nat.zero_add,go_sem,seval]
   refine hfin _ (by simp[lP,z1,z2,hla]) _ _ ?_
   intro v' rd pa ho2 hk2
   simp only[aM hb3,go_sem,seval]
   exact⟨v',rfl,ho2,hk2⟩
end
end Go.Tev
end
section
namespace Go.Tev
def tU(vals:List Typ)(v:Int):Bool:=decide (0<=v)&&(decide (v<(vals.length:Int))&&((vals[v.toNat]?).map fun t=>decide (t.elem.bs=[98,111,111,108])).getD false)
def ifT:List Bool->Bool
 |[a,b]=>a&&b
 |_=>false
def R7(fn:List aJ):List Bool->Bool
 |[a,b]=>a&&dH fn [true,b]
 |_=>false
def eM(vals:List Typ)(op:List UInt8)(num value:Int)(fn:List aJ)(kids:List Bool):Bool:=
 if decide (op=[99,111,110,115,116]) then decide (num=0)||decide (num=1)
 else if decide (op=[108,105,110,101,97,114]) then false
 else if decide (op=[114,101,97,100]) then tU vals value
 else if decide (op=[105,102]) then ifT kids
 else if decide (op=[114,101,100,117,99,101]) then R7 fn kids
 else if decide (op=[99,111,100,101]) then dH fn kids
 else eW op kids
mutual
def dZ(vals:List Typ):aC->Bool
 |.mk op num value _ _ _ _ fn _ kids _=>eM vals op.bs num value fn.es (xH vals kids)
def xH(vals:List Typ):List aC->List Bool
 |[]=>[]
 |p::r=>dZ vals p::xH vals r
end
theorem xV(vals:List Typ):∀l,xH vals l=l.map (dZ vals)
 |[]=>rfl
 |p::r=>by simp[xH,xV vals r]
theorem xW(vals:List Typ)(p:aC):dZ vals p=eM vals p.op.bs p.num p.value p.fn.es (p.kids.map (dZ vals)):=by
 cases p;rw[dZ,xV];rfl
def fM(k:aA)(nl cl:Bool)(there:List Bool)(m:Int):List AV:=
 [.sl k.vars.nl (k.vars.es.map Str.av) k.vars.cl,.sl k.wher.nl (k.wher.es.map Lin.av) k.wher.cl,.int .i64 k.inputs,.sl k.values.nl (k.values.es.map Typ.av) k.values.cl,.sl k.list.nl (k.list.es.map aD.av) k.list.cl,.sl k.results.nl (k.results.es.map aG) k.results.cl,
  .sl nl (there.map AV.bool) cl,.int .i64 m]
theorem Own.flen{h:Hp}{k esz:Nat}{ag:Bool}{v:AV}{es:List AV}(o:Own h k esz ag v es)(h':Hp):FE h' 1 [v]=some (.int .i64 es.length,.pat [] []):=by
 rcases o with ⟨rfl,nl,cl,rfl,hc⟩|⟨e,cs,rfl,hg,hu⟩
 ·rfl
 ·rfl
section
variable{pg:Pg}
set_option maxHeartbeats 1000000 in
theorem c63(hf:pg.fs 63=some cf63)(h64:∀(nl cl:Bool) (code:List aJ),code.length<=16777216->∀(nl' cl':Bool) (args:List Bool),args.length<=16777216->(nl'=true->args=[])->Ret pg 64 [.sl nl (code.map aJ.av) cl,.sl nl' (args.map AV.bool) cl'] (.bool (dH code args)))
  (h102:∀(op:List UInt8)(nl cl:Bool)(kids:List Bool),kids.length<=big->Ret pg 102 [.str op,.sl nl (kids.map AV.bool) cl] (.bool (eW op kids)))
  (k:aA) (nl cl:Bool) (there:List Bool) (m:Int):∀p:aC,p.ok->Ret pg 63 [.fp (.agg (fM k nl cl there m)),p.av] (.bool (dZ k.values.es p)):=by
 refine aC.ind' fun p ih hp=>?_
 obtain⟨hk,hks⟩:=(aC.ok_iff p).1 hp
 refine Ret.ofX hf ?_
 have htr:AV.tree (.fp (.agg (fM k nl cl there m)))=true:=by simp only[fM];simp only[go_sem,seval]
 unfold cf63
 simp only[go_sem,seval]
 generalize hH:Hp.put [] 1 0 _=H
 have hH1:H.get 1=some (0,.blk [.str p.op.bs,.int .i64 p.num,.int .i64 p.value,.str p.name.bs,.sl p.at_.nl (p.at_.es.map Lin.av) p.at_.cl,.bool p.dyn,.int .i64 p.check,.sl p.fn.nl (p.fn.es.map aJ.av) p.fn.cl,.sl p.knl (p.kids.map aC.av) p.kcl] 9 true true false):=by
  rw[<-hH,aH,if_pos rfl]
 clear hH
 rw[xW]
 refine aI p.kids (fun d r env hp=>∃v,env=cf63E0 (.fp (.agg (fM k nl cl there m))) (.pt 1 0 0) v (.sl p.knl (p.kids.map aC.av) p.kcl) (.int .i64 p.kids.length) (.int .i64 d.length)/\Own hp 13 1 false v ((d.map (dZ k.values.es)).map AV.bool)/\hp.get 1=H.get 1) ?_ ?_ ?_
 ·exact⟨_,rfl,Own.nil _ _ _ _ _ _ rfl,rfl⟩
 ·rintro env hp ⟨v,rfl,ho,h1⟩
  rw[hH1]at h1
  have hlen:=ho.flen
  have hkl:(p.kids.map (dZ k.values.es)).length<=big:=by simpa using hk
  generalize p.kids.map (dZ k.values.es)=ks at ho hlen hkl ⊢
  simp only[cf63L0,cf63E0,h1,go_sem,seval]
  cases o1:decide (p.op.bs=[99,111,110,115,116])
  case true=>
   repeat' (first|simp only[*,go_sem,seval]|refine aN (fun _=>?_) (fun _=>?_)|refine aO (fun _=>?_) (fun _=>?_)|refine And.intro (by kernel_rfl) ?_)
   all_goals (simp_all [eM])
  simp only[h1,go_sem,seval]
  cases o2:decide (p.op.bs=[108,105,110,101,97,114])
  case true=>
   simp only[go_sem,seval]
   simp[eM,o1,o2]
  simp only[h1,go_sem,seval]
  cases o3:decide (p.op.bs=[114,101,97,100])
  case true=>
   have hs:eM k.values.es p.op.bs p.num p.value p.fn.es ks=tU k.values.es p.value:=by simp[eM,o1,o2,o3]
   rw[hs]
   cases z1:decide (0<=p.value)
   ·simp only[h1,z1,go_sem,seval]
    refine And.intro (by kernel_rfl) ?_
    simp[tU,z1]
   cases z2:decide (p.value<(k.values.es.length:Int))
   ·simp only[h1,z1,z2,fM,go_sem,seval]
    refine And.intro (by kernel_rfl) ?_
    simp[tU,z2]
   simp only[decide_eq_true_eq]at z1 z2
   have z1':(0<=p.value)=True:=eq_true z1
   have z3:decide (0<=p.value)=true:=decide_eq_true z1
   have z4:decide (p.value<(k.values.es.length:Int))=true:=decide_eq_true z2
   obtain⟨t,hla⟩:∃t,k.values.es[p.value.toNat]?=some t:=⟨_,List.getElem?_eq_getElem (by omega)⟩
   simp only[h1,z3,z4,z1',fM,hla,go_sem,seval]
   refine And.intro (by kernel_rfl) ?_
   simp only[tU,z3,z4,hla,Option.map_some,Option.getD_some,Bool.true_and]
  simp only[h1,go_sem,seval]
  cases o4:decide (p.op.bs=[105,102])
  case true=>
   have hs:eM k.values.es p.op.bs p.num p.value p.fn.es ks=ifT ks:=by simp[eM,o1,o2,o3,o4]
   rw[hs]
   match ks,ho,hlen,hkl with
   |[],ho,hlen,hkl=>
    simp only[h1,↓hlen,go_sem,seval]
    rfl
   |[a],ho,hlen,hkl=>
    simp only[h1,↓hlen,go_sem,seval]
    rfl
   |a::b::c::r,ho,hlen,hkl=>
    have h3:decide (((((r.length+1+1+1):Nat):Int))=2)=false:=by simp;omega
    simp only[h1,↓hlen,h3,go_sem,seval]
    rfl
   |[a,b],ho,hlen,hkl=>
    obtain⟨e,rfl,hg⟩:∃e,v = .rf 13 e 0 2 2/\hp.get 13=some (e,.blk [.bool a,.bool b] 1 false false false):=by
     rcases ho with ⟨he,_⟩|⟨e,cs,rfl,hg,hu⟩
     ·simp at he
     ·rw[cT]at hu;cases hu
      exact⟨e,rfl,hg⟩
    have q1:(0:Int)<((2:Nat):Int):=by decide
    have q2:(1:Int)<((2:Nat):Int):=by decide
    cases a
    ·simp only[h1,hg,go_sem,seval]
     rfl
    ·simp only[h1,hg,go_sem,seval]
     rfl
  simp only[h1,go_sem,seval]
  cases o5:decide (p.op.bs=[114,101,100,117,99,101])
  case true=>
   have hs:eM k.values.es p.op.bs p.num p.value p.fn.es ks=R7 p.fn.es ks:=by simp[eM,o1,o2,o3,o4,o5]
   rw[hs]
   match ks,ho,hlen,hkl with
   |[],ho,hlen,hkl=>
    simp only[h1,↓hlen,go_sem,seval]
    refine And.intro (by kernel_rfl) ?_
    rfl
   |[a],ho,hlen,hkl=>
    simp only[h1,↓hlen,go_sem,seval]
    refine And.intro (by kernel_rfl) ?_
    rfl
   |a::b::c::r,ho,hlen,hkl=>
    have h3:decide (((((r.length+1+1+1):Nat):Int))=2)=false:=by simp;omega
    simp only[h1,↓hlen,h3,go_sem,seval]
    refine And.intro (by kernel_rfl) ?_
    rfl
   |[a,b],ho,hlen,hkl=>
    obtain⟨e,rfl,hg⟩:∃e,v = .rf 13 e 0 2 2/\hp.get 13=some (e,.blk [.bool a,.bool b] 1 false false false):=by
     rcases ho with ⟨he,_⟩|⟨e,cs,rfl,hg,hu⟩
     ·simp at he
     ·rw[cT]at hu;cases hu
      exact⟨e,rfl,hg⟩
    cases a
    ·simp only[h1,hg,go_sem,seval]
     refine And.intro (by kernel_rfl) ?_
     rfl
    ·simp only[h1,hg,go_sem,seval]
     refine aB (h64 p.fn.nl p.fn.cl p.fn.es p.fn.ok false true [true,b] (by simp) (by intro h;cases h)) (by simp only[go_sem,seval]) rfl ?_
     simp only[go_sem,seval]
     refine And.intro (by kernel_rfl) ?_
     rfl
  simp only[h1,go_sem,seval]
  cases o6:decide (p.op.bs=[99,111,100,101])
  case true=>
   have hs:eM k.values.es p.op.bs p.num p.value p.fn.es ks=dH p.fn.es ks:=by simp[eM,o1,o2,o3,o4,o5,o6]
   rw[hs]
   simp only[h1,go_sem,seval]
   obtain⟨nl8,cl8,keys,hsn,hnl8⟩:=ho.snap (El.bools _) 62
   have h2:=h64 p.fn.nl p.fn.cl p.fn.es p.fn.ok nl8 cl8 ks hkl (by intro h;simpa using hnl8 h)
   refine bQ h2 (oQ (by simp only[go_sem,seval]) hsn) (v:=.bool (dH p.fn.es ks)) (pa:=[]) rfl ?_
   simp only[go_sem,seval]
  have hs:eM k.values.es p.op.bs p.num p.value p.fn.es ks=eW p.op.bs ks:=by simp[eM,o1,o2,o3,o4,o5,o6]
  rw[hs]
  simp only[h1,go_sem,seval]
  obtain⟨nl8,cl8,keys,hsn,hnl8⟩:=ho.snap (El.bools _) 62
  have h2:=h102 p.op.bs nl8 cl8 ks hkl
  refine bQ h2 (oQ (by simp only[go_sem,seval]) hsn) (v:=.bool (eW p.op.bs ks)) (pa:=[]) rfl ?_
  simp only[go_sem,seval]
 ·rintro d x r env hp hes ⟨v,rfl,ho,h1⟩
  have hxm:x∈p.kids:=by rw[hes];simp
  have hx:=ih x hxm (hks x hxm)
  have hb2:(d++x::r).length<=big:=by rw[<-hes];exact hk
  rw[hes]
  simp only[cf63L0,cf63E0,go_sem,seval]
  rw[aC.avc]at hx
  refine aB hx (by simp only[treeL,htr,Bool.true_and,Bool.and_true];simp only[go_sem,seval]) rfl ?_
  simp only[go_sem,seval]
  refine fV (kb:=0) (s:=13) (ho.mono ?_) (El.bools _) (xs:=[.bool (dZ k.values.es x)]) (by intro y hy;simp at hy;subst hy;exact El.bool _) (by simp[big]at *;omega) (by omega) ?_
  ·simp only[go_sem,seval]
  ·intro v' rd pa ho2 hk2 _
   simp only[aM hb2,go_sem,seval]
   exact⟨v',rfl,by simpa using ho2,by rw[hk2 1 (by omega)];simp only[h1,go_sem,seval]⟩
end
end Go.Tev
end
section
namespace Go.Tev
def xP:aC:=.mk ⟨[],by decide⟩ 0 0 ⟨[],by decide⟩ ⟨true,[],true,by decide⟩ false 0 ⟨true,[],true,by decide⟩ true [] true
theorem KF{p:aC}{v:Int}(h:sW p v=true):0<=p.value/\p.value<v:=by
 simp only[sW,Bool.and_eq_true,decide_eq_true_eq]at h
 exact⟨h.1.1.1.2,h.1.1.2⟩
theorem nL(v:Int):∀p:aC,∀vars,gL v p vars=true->∀a∈dU p,0<=a/\a<v:=by
 refine aC.ind' fun p ih vars h=>?_
 rw[oH]at h
 simp only[Bool.and_eq_true]at h
 obtain⟨⟨h1,_⟩,h2⟩:=h
 have hk:∀(l:List aC),(∀q∈l,q∈p.kids)->∀i red,gJ v red p.name vars i l=true->∀a∈gM l,0<=a/\a<v:=by
  intro l
  induction l with
  |nil=>intro _ i red _ a ha;simp[gM]at ha
  |cons q r ih2=>
   intro hm i red hv a ha
   simp only[gJ,Bool.and_eq_true]at hv
   simp only[gM,List.mem_append]at ha
   rcases ha with ha|ha
   ·exact ih q (hm q (by simp)) _ hv.1 a ha
   ·exact ih2 (fun q hq=>hm q (by simp[hq])) _ red hv.2 a ha
 intro a ha
 rw[BD,List.mem_append]at ha
 rcases ha with ha|ha
 ·split at ha
  ·rename_i ho
   simp only[List.mem_singleton]at ha
   subst ha
   simp only[decide_eq_true_eq]at ho
   have e1:¬(p.op.bs=[99,111,110,115,116]):=by rw[ho];decide
   have e2:¬(p.op.bs=[108,105,110,101,97,114]):=by rw[ho];decide
   have:eU p vars v=sW p v:=by unfold eU;rw[if_neg e1,if_neg e2,if_pos ho]
   rw[this]at h1
   exact KF h1
  ·simp at ha
 ·exact hk p.kids (fun q hq=>hq) 0 _ h2 a ha
def aY(there:List Bool)(v:Int):Bool:=(there[v.toNat]?).getD false
section
variable{pg:Pg}
theorem c66(hf:pg.fs 66=some cf66)(h105:∀p:aC,p.ok->∀q:aC,Ret pg 105 [p.av,q.av] (.bool (dQ p q)))(p:aC)(hp:p.ok):Ret pg 66 [p.av] (.bool (dQ p xP)):=by
 have k:=h105 p hp xP
 rw[aC.avc,aC.avc]at k
 refine Ret.ofX hf ?_
 clear h105
 unfold cf66
 simp only[go_sem,seval]
 refine aB k (by simp only[go_sem,seval]) rfl ?_
 simp only[go_sem,seval]
theorem c110(hf:pg.fs 110=some cf110)(k:aA)(nl cl:Bool)(there:List Bool)(m nt v:Int)(h0:0<=v)(h1:v<there.length) :
  Ret pg 110 [.int .i64 v,.fp (.fp (.agg (fM k nl cl there m))),.fp (.int .i64 nt)] (.bool (!aY there v||decide (v=nt))):=by
 obtain⟨b,hb⟩:∃b,there[v.toNat]?=some b:=⟨_,List.getElem?_eq_getElem (by omega)⟩
 have ht:aY there v=b:=by simp[aY,hb]
 rw[ht]
 have h0':(0<=v)=True:=eq_true h0
 refine Ret.ofX hf ?_
 unfold cf110
 cases b
 ·simp only[fM,h0',hb,go_sem,seval]
 ·simp only[fM,h0',hb,go_sem,seval]
theorem c71(hf:pg.fs 71=some cf71)(nl cl:Bool)(es:List Int)(hb:es.length<=big)(g:Nat)(cs:List AV)(hcs:treeL cs=true)(p:Int->Bool)(hp:∀x∈es,Ret pg g (aG x::cs) (.bool (p x))) :
  bJ pg 71 [.sl nl (es.map aG) cl,.fn g cs] (fun r=>∃i:Int,r = .int .i64 i/\decide (0<=i)=es.any p):=
 rV (f:=71) (esz:=1) (ag:=false) hf aG (fun _=>rfl) (fun _=>rfl) nl cl es hb g cs hcs p hp
theorem c45(hf:pg.fs 45=some cf45)(h71:pg.fs 71=some cf71)(nl cl:Bool)(es:List Int)(hb:es.length<=big)(g:Nat)(cs:List AV)(hcs:treeL cs=true)(p:Int->Bool)(hp:∀x∈es,Ret pg g (aG x::cs) (.bool (p x))) :
  Ret pg 45 [.sl nl (es.map aG) cl,.fn g cs] (.bool (es.any p)):=
 mE (n:=71) hf (by simp only[treeL,mB,pB,hcs,nC,Bool.and_true]) (c71 h71 nl cl es hb g cs hcs p hp)
def t8(i:Nat):Str:=⟨rA i,by simp[rA,big]⟩
def eG(vars:List Str)(n:Nat):List Str:=vars++(List.range n).map t8
def eC(k:aA)(there:List Bool)(p:aC)(n:Nat)(nt:Int):Bool:=
 gN p (eG k.vars.es n) k.values.es.length && !(bR p).any (fun v => !aY there v||decide (v=nt))
theorem hZ{n x:Nat}{d r:List Nat}(h:List.range n=d++x::r):x=d.length/\d.length<n:=by
 have h1:(List.range n)[d.length]?=some x:=by rw[h];simp
 have h2:=congrArg List.length h
 simp at h2
 rw[List.getElem?_range (by omega)]at h1
 cases h1
 exact⟨rfl,by omega⟩
theorem c69(B:LT pg)(S:J1 pg)(hf:pg.fs 69=some cf69)(h107:pg.fs 107=some cf107)(h109:∀p:aC,p.ok->∀(nl cl:Bool) (vars:List Str),vars.length+p.sz<=big->∀v:Int,Ret pg 109 [p.av,.sl nl (vars.map Str.av) cl,.int .i64 v] (.bool (gN p vars v)))
  (h48:pg.fs 48=some cf48) (h74:pg.fs 74=some cf74) (h110:pg.fs 110=some cf110) (h45:pg.fs 45=some cf45) (h71:pg.fs 71=some cf71)
  (k:aA) (hnl:k.vars.nl=true->k.vars.es=[]) (nl cl:Bool) (there:List Bool) (hth:there.length=k.values.es.length) (m:Int) (p:aC) (hpo:p.ok) (n:Nat) (hn:n<=9) (hsz:k.vars.es.length+n+p.sz<=big) (nt:Int) :
  Ret pg 69 [.fp (.agg (fM k nl cl there m)),p.av,.int .i64 n,.int .i64 nt] (.bool (eC k there p n nt)):=by
 refine Ret.ofX hf ?_
 unfold cf69
 have htr:treeL (fM k nl cl there m)=true:=by simp only[fM];simp only[go_sem,seval]
 simp only[fM,go_sem,seval]
 refine wB (c107 h107 k.vars.nl k.vars.cl (k.vars.es.map Str.av) (El.strs _) (by simpa using k.vars.ok) (by intro h;simp[hnl h])) (by simp only[go_sem,seval]) (El.strs _) ?_
 intro v0 rd pa ho0 hk0 _
 simp only[hk0,go_sem,seval]
 have g1:=hk0 1 (by omega)
 have g5:=hk0 5 (by omega)
 have g9:=hk0 9 (by omega)
 simp only[go_sem,seval]at g1 g5 g9
 clear hk0
 generalize hH:Eff.app _ (Eff.pat rd pa)=H at ho0 g1 g5 g9 ⊢
 clear hH
 refine aI (List.range n) (fun d r env hp=>∃v kk,env=cf69E0 (.pt 1 0 0) (.pt 5 0 0) (.pt 9 0 0) v (.int .i64 n) (.int .i64 d.length)/\(kk=13\/kk=21)/\Own hp kk 1 false v ((k.vars.es++d.map t8).map Str.av) /\
  hp.get 1=H.get 1/\hp.get 5=H.get 5/\hp.get 9=H.get 9) ?_ ?_ ?_
 ·exact⟨v0,13,rfl,.inl rfl,by simpa using ho0,rfl,rfl,rfl⟩
 ·rintro env hp ⟨v,kk,rfl,hkk,ho,q1,q5,q9⟩
  have hr:(List.range n).length=n:=List.length_range
  rw[hr]
  rw[g1]at q1
  rw[g5]at q5
  rw[g9]at q9
  have ho':Own hp kk 1 false v ((eG k.vars.es n).map Str.av):=ho
  obtain⟨nl8,cl8,keys,hsn,hnl8⟩:=ho'.snap (El.strs _) 62
  have h2:=h109 p hpo nl8 cl8 (eG k.vars.es n) (by simp[eG];omega) k.values.es.length
  rw[aC.avc]at h2
  have h3:=c48 S h48 h74 p hpo (by omega)
  rw[aC.avc]at h3
  simp only[cf69L0,cf69E0,q1,q5,q9,go_sem,seval]
  refine bQ h2 (pN (by simp only[go_sem,seval]) hsn (by simp only[go_sem,seval])) (v:=.bool (gN p (eG k.vars.es n) k.values.es.length)) (pa:=[]) rfl ?_
  cases hv:gN p (eG k.vars.es n) k.values.es.length
  ·simp only[go_sem,seval]
   refine And.intro (by kernel_rfl) ?_
   all_goals (first|(simp only[eC,hv];rfl)|skip)
  ·simp only[q5,go_sem,seval]
   refine j8 h3 (by simp only[go_sem,seval]) ?_
   intro nl9 cl9 hnl9
   simp only[go_sem,seval]
   have hrl:(bR p).length<=big:=by
    have e1:=oZ (jE (dU p))
    have e2:=kX (dU p)
    have e3:=pH p
    simp only[bR]
    omega
   have hin:∀a∈bR p,0<=a/\a<(there.length:Int):=by
    intro a ha
    simp only[bR,lD,mK]at ha
    rw[hth]
    have hv2:=hv
    simp only[gN,Bool.and_eq_true]at hv2
    exact nL _ p (eG k.vars.es n) hv2.2 a ha
   refine bQ (c45 h45 h71 nl9 cl9 (bR p) hrl 110 [.fp (.fp (.agg (fM k nl cl there m))),.fp (.int .i64 nt)] (by simp only[treeL,CJ,xY,DS,htr,Bool.and_true]) (fun v => !aY there v||decide (v=nt)) (fun v hv'=>c110 h110 k nl cl there m nt v (hin v hv').1 (hin v hv').2)) (keys:=[1,9]) ?_ (v:=.bool ((bR p).any (fun v => !aY there v||decide (v=nt)))) (pa:=[]) rfl ?_
   ·simp only[q1,q9,depth,bW,bB,eD,go_sem,Nat.reduceAdd,↓reduceIte]
    rfl
   ·cases hq:(bR p).any (fun v => !aY there v||decide (v=nt))
    ·simp only[go_sem,seval]
     refine And.intro (by kernel_rfl) ?_
     simp only[eC,hv,hq];rfl
    ·simp only[go_sem,seval]
     refine And.intro (by kernel_rfl) ?_
     simp only[eC,hv,hq];rfl
 ·rintro d x r env hp hes ⟨v,kk,rfl,hkk,ho,q1,q5,q9⟩
  obtain⟨hx,hlt⟩:=hZ hes
  have hb2:(d++x::r).length<=big:=by rw[<-hes];simp[big];omega
  have e1:decide ((d.length:Int)<(n:Int))=true:=by simp;omega
  simp only[cf69L0,cf69E0,e1,go_sem,seval]
  refine aB (B.loop d.length (by omega)) (by simp only[go_sem,seval]) rfl ?_
  simp only[go_sem,seval]
  refine pY (kb:=0) (s:=21) (k1:=kk) (ho.mono ?_) (El.strs _) (xs:=[.str (rA d.length)]) (by intro y hy;simp at hy;subst hy;exact El.str _) (by simp) ?_ (by omega) ?_
  ·simp only[go_sem,seval]
  ·simp only[List.length_map,List.length_append,List.length_cons,List.length_nil]
   simp only[big]at hsz
   omega
  ·intro v' rd' pa' ho2 hk2
   simp only[aM hb2,go_sem,seval]
   refine⟨v',21,rfl,.inr rfl,?_,?_,?_,?_⟩
   ·rw[hx];simpa[Str.av,t8] using ho2
   ·rw[hk2 1 (by omega) (by omega)];exact q1
   ·rw[hk2 5 (by omega) (by omega)];exact q5
   ·rw[hk2 9 (by omega) (by omega)];exact q9
end
end Go.Tev
end
section
namespace Go.Tev
def tA(k:aA)(q:aD):Bool:=decide (q.value<k.inputs)||decide ((k.values.es.length:Int)<=q.value)||decide (q.check<0)
def kT(vals:List Typ)(q:aD)(t:Typ):Bool:=
 decide (t.elem.bs=[98,111,111,108])&&(!dZ vals q.body||(decide (q.kind=2) && !dH q.fn.es [true,true]))
def C4(k:aA)(q:aD)(i:Nat):Bool:=
 !decide (q.kind=3) || !decide (q.source=q.value)||decide ((i:Int)=0) ||
  (match k.list.es[((i:Int)-1).toNat]? with | none=>true | some r => !decide (r.value=q.value) || !decide (r.kind=1))
def uG(k:aA)(there:List Bool)(q:aD)(t:Typ):Bool:=
 decide ((t.shape.dims.es.length:Int)=0)||decide (0<(q.fn.es.length:Int))||decide (q.source<0)||decide ((k.values.es.length:Int)<=q.source) || !aY there q.source ||
  (match k.values.es[q.source.toNat]? with|none=>true|some u => !gG u t)
def nA(q:aD):Bool := !decide (q.source=0) || !decide (q.check=0) || !dQ q.index xP
def qC(q:aD)(t:Typ):List Lin:=if decide (q.kind=3) then t.shape.dims.es.dropLast else t.shape.dims.es
def sD(k:aA)(there:List Bool)(q:aD)(n:Nat)(nt:Int):Bool:=
 if decide (q.kind=1) then decide ((q.fn.es.length:Int)=0)&&eC k there q.body n nt
 else if decide (q.kind=2) then decide (0<(n:Int))&&cR q.fn.es 2&&eC k there q.body n nt
 else if decide (q.kind=3) then eC k there q.body n nt&&eC k there q.index n nt
 else false
def bL(k:aA)(there:List Bool)(q:aD)(i:Nat):Bool:=
 !tA k q&&(match k.values.es[q.value.toNat]? with
  |none=>false
  |some t => !kT k.values.es q t && !(aY there q.value&&C4 k q i) && !(if decide (q.kind=3) then uG k there q t else nA q) &&
   eqL bH q.space.es (qC q t)&&sD k there q (qC q t).length (if aY there q.value then q.value else -1))
theorem yE(esz:Nat)(nl cl:Bool)(es:List AV)(hb:es.length<=big)(hall:es.all (fun v=>v.cells.length==esz)=true) :
  ∃c,decide ((es.length:Int)=0)=false->∀h,gB h esz false true false [.sl nl es cl,.int .i64 (wr .i64 ((es.length:Int)-1))]=some (.sl nl es.dropLast c,.pat [] []):=by
 by_cases h0:es.length=0
 ·exact⟨false,fun h=>by simp[h0]at h⟩
 ·have hw:wr .i64 ((es.length:Int)-1)=((es.length-1:Nat):Int):=by
   simp only[big]at hb
   rw[aV (by omega) (by omega)];omega
  refine⟨(nl||cl)&&(((es.length-1:Nat):Int)==(es.length:Int)),fun _ h=>?_⟩
  rw[hw]
  simp only[gB,gS,gW,Bool.false_eq_true,if_false,if_true,Option.getD_none,Option.getD_some,hall,Option.isSome_none]
  rw[if_pos ⟨by omega,by omega,by omega,by omega,trivial⟩]
  simp only[val,Int.toNat_zero,List.drop_zero,Int.toNat_natCast,Nat.sub_zero,<-List.dropLast_eq_take]
end Go.Tev
end
