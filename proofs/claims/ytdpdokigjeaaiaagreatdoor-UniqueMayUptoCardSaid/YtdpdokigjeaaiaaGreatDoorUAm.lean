import Derived.Test.YtdpdokigjeaaiaaGreatDoorROm
import Derived.Test.YtdpdokigjeaaiaaGreatDoorNDm
set_option linter.all false
section
namespace Go.Tev
def loopU (n:Int):List UInt8:=if n < 0 then [] else 105 :: digs 20 n.toNat
def quos:Nat→Nat→List Nat
 | 0,_=>[]
 | f+1,m=>if m=0 then [] else m :: quos f (m / 10)
def dpre (f m:Nat) (s:List UInt8):List UInt8:=if m=0 then s else digs f m++s
theorem digs_len:∀ f u,(digs f u).length≤f
 | 0,u=>by simp [digs]
 | f+1,u=>by
  have:=digs_len f (u / 10)
  simp only [digs]
  split<;>simp<;>omega
theorem dpre_step {f m:Nat} (hm:m ≠ 0) (s:List UInt8):dpre (f+1) m s=dpre f (m / 10) (UInt8.ofNat (48+m % 10) :: s):=by
 simp only [dpre,if_neg hm,digs]
 by_cases h:m < 10
 ·have h1:m / 10=0:=by omega
  have h2:m % 10=m:=by omega
  rw [if_pos h,if_pos h1,h2];rfl
 ·have h1:¬ m / 10=0:=by omega
  rw [if_neg h,if_neg h1];simp
section
variable {pg:Pg}
theorem c163g (hf:pg.fs 163=some cf163) (n:Nat) (hn:n≤9223372036854775807):Ret pg 163 [.int .i64 n] (.str (digs 20 n)):=by
 refine Ret.ofX hf ?_
 have arith:∀ m:Nat,m≤9223372036854775807→((m:Int).tmod 10)=((m % 10:Nat):Int)∧(m:Int).tdiv 10=((m / 10:Nat):Int)∧wr .i64 ((m / 10:Nat):Int)=((m / 10:Nat):Int)∧wr .i64 ((m % 10:Nat):Int)=((m % 10:Nat):Int) ∧
   wr .i64 (48+((m % 10:Nat):Int))=((48+m % 10:Nat):Int)∧wr .u8 ((48+m % 10:Nat):Int)=((48+m % 10:Nat):Int):=by
  intro m hm
  refine ⟨by rw [Int.tmod_eq_emod_of_nonneg (by omega)];omega,by rw [Int.tdiv_eq_ediv_of_nonneg (by omega)];omega,by rw [wr_small (by omega) (by omega)],by rw [wr_small (by omega) (by omega)],by rw [wr_small (by omega) (by omega)];omega,?_⟩
  simp only [wr];rw [if_pos (by omega)]
 obtain ⟨h1,h2,h3,h3',h4,h5⟩:=arith n hn
 have h6:=fun h nl cl=>b2s_one h nl cl (48+n % 10) (by omega)
 have h7:((10:Int)=0)=False:=by simp
 have hD:digs 20 n=dpre 19 (n / 10) [UInt8.ofNat (48+n % 10)]:=by
  by_cases h0:n=0
  ·subst h0;rfl
  ·have:=dpre_step (f:=19) h0 []
   simpa [dpre,h0] using this
 unfold cf163
 simp only [h1,h2,h3,h3',h4,h5,h7,↓h6,go_sem,seval]
 refine XX_list (quos 19 (n / 10)) (fun d r env hp=>∃ (m f:Nat) (s:List UInt8),env=cf163E0 (.int .i64 m) (.str s)∧r=quos f m∧m < 10 ^ f∧m≤9223372036854775807∧digs 20 n=dpre f m s∧s.length=d.length+1∧d.length+f=19) ?_ ?_ ?_
 ·exact ⟨n / 10,19,_,rfl,rfl,by omega,by omega,hD,rfl,rfl⟩
 ·rintro env hp ⟨m,f,s,rfl,hr,hm,hm2,hI,_,_⟩
  have h0:m=0:=by
   cases f with
   | zero=>simpa using hm
   | succ f=>
    simp only [quos] at hr
    split at hr
    ·assumption
    ·cases hr
  subst h0
  have e1:decide ((((0:Nat):Int)) > 0)=false:=by decide
  simp only [cf163L0,cf163E0,e1,go_sem,seval]
  rw [hI];rfl
 ·rintro d x r env hp hes ⟨m,f,s,rfl,hr,hm,hm2,hI,hs,hdf⟩
  cases f with
  | zero=>cases hr
  | succ f=>
  simp only [quos] at hr
  split at hr
  ·cases hr
  rename_i h0
  simp only [List.cons.injEq] at hr
  obtain ⟨rfl,hr⟩:=hr
  obtain ⟨a1,a2,a3,a3',a4,a5⟩:=arith x hm2
  have a6:=fun h nl cl=>b2s_one h nl cl (48+x % 10) (by omega)
  have e1:decide (0 < (x:Int))=true:=by simp;omega
  have e2:(1+s.length≤9223372036854775807)=True:=eq_true (by omega)
  simp only [cf163L0,cf163E0,e1,a1,a2,a3,a3',a4,a5,h7,↓a6,e2,go_sem,seval]
  refine ⟨x / 10,f,_,rfl,hr,by rw [Nat.pow_succ] at hm;omega,by omega,by rw [hI,dpre_step h0],by simp [hs],by simp;omega⟩
theorem c122g (hf:pg.fs 122=some cf122) (h163:pg.fs 163=some cf163) (n:Int) (hn:n≤9223372036854775807):Ret pg 122 [.int .i64 n] (.str (loopU n)):=by
 refine Ret.ofX hf ?_
 unfold cf122
 by_cases h:n < 0
 ·have h1:decide (n < 0)=true:=decide_eq_true h
  simp only [h1,go_sem,seval]
  rw [loopU,if_pos h]
 ·have h1:decide (n < 0)=false:=decide_eq_false h
  have a:=c163g h163 n.toNat (by omega)
  rw [Int.toNat_of_nonneg (by omega)] at a
  have hl:=digs_len 20 n.toNat
  have e2:(1+(digs 20 n.toNat).length≤9223372036854775807)=True:=eq_true (by omega)
  simp only [h1,go_sem,seval]
  refine XO_tree a (by simp only [go_sem,seval]) rfl ?_
  simp only [e2,go_sem,seval]
  rw [loopU,if_neg h]
theorem c108g (A:Ora pg) (hf:pg.fs 108=some cf108) (n:Int) (hn:n≤9223372036854775807):Ret pg 108 [.int .i64 n] (.str (loopU n)):=by
 refine Ret.ofX hf ?_
 unfold cf108
 by_cases h:n < 0
 ·have h1:decide (n < 0)=true:=decide_eq_true h
  simp only [h1,go_sem,seval]
  rw [loopU,if_pos h]
 ·have h1:decide (n < 0)=false:=decide_eq_false h
  have a:Ret pg 93 [.int .i64 n] (.str (digs 20 n.toNat)):=by
   refine ret_ex A.f93 A.itoa ?_ rfl
   simp only [exItoa]
   rw [if_pos (by omega)]
  have hl:=digs_len 20 n.toNat
  have e2:(1+(digs 20 n.toNat).length≤9223372036854775807)=True:=eq_true (by omega)
  simp only [h1,go_sem,seval]
  refine XO_tree a (by simp only [go_sem,seval]) rfl ?_
  simp only [e2,go_sem,seval]
  rw [loopU,if_neg h]
end
end Go.Tev
end
section
namespace Go.Tev
def Asc (l:List Int):Prop:=l.Pairwise (· < ·)
theorem asc_put (x:Int):∀ l:List Int,Asc l→Asc (putI x l)
 | [],_=>by simp [putI,Asc]
 | y :: r,h=>by
  obtain ⟨h1,h2⟩:=List.pairwise_cons.1 h
  simp only [putI]
  by_cases h3:y < x
  ·simp only [h3,decide_true,if_true]
   refine List.pairwise_cons.2 ⟨fun z hz=>?_,asc_put x r h2⟩
   rcases (mem_putI r).1 hz with rfl | hz
   ·exact h3
   ·exact h1 z hz
  ·simp only [h3,decide_false,Bool.false_eq_true,if_false]
   by_cases h4:y=x
   ·simp only [h4,decide_true,if_true]
    exact h4 ▸ h
   ·simp only [h4,decide_false,Bool.false_eq_true,if_false]
    refine List.pairwise_cons.2 ⟨fun z hz=>?_,h⟩
    rcases List.mem_cons.1 hz with rfl | hz
    ·omega
    ·have:=h1 z hz
     omega
theorem asc_puts:∀ (l acc:List Int),Asc acc→Asc (putsI acc l)
 | [],acc,h=>h
 | x :: r,acc,h=>by
  simp only [putsI,List.foldl_cons]
  exact asc_puts r _ (asc_put x acc h)
theorem asc_reads1:∀ (l:List Pull) (acc:List Int),Asc acc→Asc (readsRs acc l)
 | [],acc,h=>h
 | p :: r,acc,h=>by
  rw [readsRs]
  exact asc_reads1 r _ (asc_puts _ _ h)
theorem asc_reads (p:Pull):Asc (readsR p):=by
 rw [readsR_eq]
 refine asc_reads1 _ _ ?_
 split
 ·simp [putI,Asc]
 ·simp [Asc]
theorem asc_comp:∀ l:List Int,l.Pairwise (· ≤ ·)→Asc (compI l)
 | [],_=>by simp [compI,Asc]
 | [x],_=>by simp [compI,Asc]
 | x :: y :: r,h=>by
  obtain ⟨h1,h2⟩:=List.pairwise_cons.1 h
  have ih:=asc_comp (y :: r) h2
  simp only [compI]
  split
  ·exact ih
  ·rename_i hne
   refine List.pairwise_cons.2 ⟨fun z hz=>?_,ih⟩
   have hz2:=(mem_compI z (y :: r)).1 hz
   have h3:=h1 y (by simp)
   rcases List.mem_cons.1 hz2 with rfl | hz3
   ·omega
   ·have:=(List.pairwise_cons.1 h2).1 z hz3
    omega
theorem asc_eq:∀ (a b:List Int),Asc a→Asc b→(∀ x,x∈a↔x∈b)→a=b
 | [],[],_,_,_=>rfl
 | [],y :: s,_,_,h=>by have:=(h y).2 (by simp);simp at this
 | x :: r,[],_,_,h=>by have:=(h x).1 (by simp);simp at this
 | x :: r,y :: s,ha,hb,h=>by
  obtain ⟨a1,a2⟩:=List.pairwise_cons.1 ha
  obtain ⟨b1,b2⟩:=List.pairwise_cons.1 hb
  have hxy:x=y:=by
   have p1:=(h x).1 (by simp)
   have p2:=(h y).2 (by simp)
   rcases List.mem_cons.1 p1 with e | q1
   ·exact e
   ·rcases List.mem_cons.1 p2 with e | q2
    ·exact e.symm
    ·have:=b1 x q1
     have:=a1 y q2
     omega
  subst hxy
  congr 1
  refine asc_eq r s a2 b2 fun z=>⟨fun hz=>?_,fun hz=>?_⟩
  ·rcases List.mem_cons.1 ((h z).1 (List.mem_cons_of_mem _ hz)) with e | q
   ·have:=a1 z hz;omega
   ·exact q
  ·rcases List.mem_cons.1 ((h z).2 (List.mem_cons_of_mem _ hz)) with e | q
   ·have:=b1 z hz;omega
   ·exact q
theorem reads_eq (p:Pull):readsV p=readsR p:=by
 refine asc_eq _ _ (asc_comp _ (sortI_sorted _)) (asc_reads p) fun x=>?_
 rw [readsV,mem_compI,mem_sortI,mem_readsR]
end Go.Tev
end
section
namespace Go.Tev
def isLoop (i:Nat) (l:Lin):Bool:=decide (l.c=0)&&match l.ts.es with
 | [t]=>decide (t.v.bs=loopU i)&&decide (t.c=1)
 | _=>false
def ownIdx:Nat→List Lin→Bool
 | _,[]=>true
 | i,l :: r=>isLoop i l&&ownIdx (i+1) r
def ownAt (p:Pull) (rank:Int):Bool := !p.dyn&&(decide ((p.at_.es.length:Int)=rank)&&ownIdx 0 p.at_.es)
def own1 (v rank:Int) (p:Pull):Bool := !(decide (p.op.bs=[114,101,97,100])&&(decide (p.value=v) && !ownAt p rank))
mutual
def ownU (v rank:Int):Pull→Bool
 | .mk op num value name at_ dyn check fn knl kids kcl=>own1 v rank (.mk op num value name at_ dyn check fn knl kids kcl)&&ownUs v rank kids
def ownUs (v rank:Int):List Pull→Bool
 | []=>true
 | p :: r=>ownU v rank p&&ownUs v rank r
end
theorem ownU_eq (v rank:Int) (p:Pull):ownU v rank p=(own1 v rank p&&ownUs v rank p.kids):=by cases p;rw [ownU];rfl
theorem ownUs_all (v rank:Int):∀ l:List Pull,ownUs v rank l=l.all (ownU v rank)
 | []=>by simp [ownUs]
 | p :: r=>by simp [ownUs,ownUs_all v rank r]
def spanAt (k:Kernels) (v:Int):Sp:=((spansK k)[v.toNat]?).getD (-2,-1)
def mayQ (k:Kernels) (at_ v:Int) (q:Kernel) (a b:Typ):Bool:=
 (!decide (v=q.value)&&(decide ((spanAt k q.value).1=at_)&&(!decide ((spanAt k v).1 = -2)&&decide ((spanAt k v).2=at_))))&&(typEq a b &&
  if q.kind=3 then decide (v=q.source)&&(!(readsV q.body).contains v && !(readsV q.index).contains v) else ownU v b.shape.dims.es.length q.body)
def mayU (k:Kernels) (at_ v:Int):Bool:=
 match k.list.es[at_.toNat]?,k.values.es[v.toNat]? with
 | some q,some a=>match k.values.es[q.value.toNat]? with
  | some b=>decide (0≤at_)&&decide (0≤v)&&mayQ k at_ v q a b
  | none=>false
 | _,_=>false
def firstV (f:Nat→Bool):Nat→Nat→Int
 | _,0 => -1
 | i,n+1=>if f i then i else firstV f (i+1) n
def lastDown (f:Nat→Bool):Nat→Int→Int
 | 0,c=>c
 | n+1,c=>lastDown f n (if f n then n else c)
theorem firstV_snoc (f:Nat→Bool):∀ (n i:Nat),firstV f i (n+1)=if firstV f i n = -1 then (if f (i+n) then ((i+n:Nat):Int) else -1) else firstV f i n
 | 0,i=>by simp [firstV]
 | n+1,i=>by
  rw [firstV]
  by_cases h:f i
  ·have e:firstV f i (n+1)=i:=by rw [firstV,if_pos h]
   rw [if_pos h,e,if_neg (by omega)]
  ·have e:firstV f i (n+1)=firstV f (i+1) n:=by rw [firstV,if_neg h]
   have hs:i+1+n=i+(n+1):=by omega
   rw [if_neg h,e,firstV_snoc f n (i+1),hs]
theorem lastDown_eq (f:Nat→Bool):∀ (n:Nat) (c:Int),lastDown f n c=if firstV f 0 n = -1 then c else firstV f 0 n
 | 0,c=>by simp [lastDown,firstV]
 | n+1,c=>by
  rw [lastDown,lastDown_eq f n,firstV_snoc]
  by_cases h1:firstV f 0 n = -1
  ·rw [if_pos h1,if_pos h1]
   by_cases h2:f n
   ·have h3:f (0+n):=by rw [Nat.zero_add];exact h2
    rw [if_pos h2,if_pos h3,if_neg (by omega)];simp
   ·have h3:¬ f (0+n):=by rw [Nat.zero_add];exact h2
    rw [if_neg h2,if_neg h3,if_pos rfl]
  ·rw [if_neg h1,if_neg h1,if_neg h1]
theorem choice_eq (f:Nat→Bool) (n:Nat):lastDown f n (-1)=firstV f 0 n:=by
 rw [lastDown_eq]
 split
 ·rename_i h;exact h.symm
 ·rfl
def choicesU (k:Kernels):List Int:=(List.range k.list.es.length).map fun (i:Nat)=>firstV (fun v=>mayU k (i:Int) (v:Int)) 0 k.values.es.length
end Go.Tev
end
section
namespace Go.Tev
section
variable {pg:Pg}
theorem c292 (hf:pg.fs 292=some cf292) (nl cl:Bool) (es:List Pull) (hb:es.length≤big) (g:Nat) (cs:List AV) (hcs:treeL cs=true) (p:Pull→Bool) (hp:∀ x∈es,Ret pg g (x.av :: cs) (.bool (p x))) :
  RetP pg 292 [.sl nl (es.map Pull.av) cl,.fn g cs] (fun r=>∃ i:Int,r = .int .i64 i∧decide (0≤i)=es.any p):=
 idxF_ok (f:=292) (esz:=9) (ag:=true) hf Pull.av Pull.fits_av Pull.tree_av nl cl es hb g cs hcs p hp
theorem c273 (hf:pg.fs 273=some cf273) (h292:pg.fs 292=some cf292) (nl cl:Bool) (es:List Pull) (hb:es.length≤big) (g:Nat) (cs:List AV) (hcs:treeL cs=true) (p:Pull→Bool) (hp:∀ x∈es,Ret pg g (x.av :: cs) (.bool (p x))) :
  Ret pg 273 [.sl nl (es.map Pull.av) cl,.fn g cs] (.bool (es.any p)):=
 conF_ok (n:=292) hf (by simp only [treeL,tree_sl,tree_fn,hcs,Pull.treeL_av,Bool.and_true]) (c292 h292 nl cl es hb g cs hcs p hp)
theorem c274 (hf:pg.fs 274=some cf274) (p:Pull) (v rank:Int) (b:Bool) (h:Ret pg 260 [p.av,.int .i64 v,.int .i64 rank] (.bool b)):Ret pg 274 [p.av,.fp (.int .i64 v),.fp (.int .i64 rank)] (.bool (!b)):=by
 rw [Pull.avc] at h
 refine Ret.ofX hf ?_
 unfold cf274
 simp only [go_sem,seval]
 refine XO_tree h (by simp only [go_sem,seval]) rfl ?_
 simp only [go_sem,seval]
theorem c272 (A:Ora pg) (hf:pg.fs 272=some cf272) (h108:pg.fs 108=some cf108) (p:Pull) (rank:Int):Ret pg 272 [p.av,.int .i64 rank] (.bool (ownAt p rank)):=by
 refine Ret.ofX hf ?_
 unfold cf272
 have hb:=p.at_.ok
 cases b1:p.dyn
 case true=>
  simp only [b1,go_sem,seval]
  simp [ownAt,b1]
 cases b2:decide ((p.at_.es.length:Int)=rank)
 case false=>
  simp only [b1,b2,go_sem,seval]
  simp [ownAt,b1,b2]
 simp only [b1,b2,go_sem,seval]
 refine XX_list p.at_.es (fun d r env hp=>env=cf272E0 (.sl p.at_.nl (p.at_.es.map Lin.av) p.at_.cl) (.int .i64 p.at_.es.length) (.int .i64 d.length)∧ownIdx 0 p.at_.es=ownIdx d.length r) ?_ ?_ ?_
 ·exact ⟨rfl,rfl⟩
 ·rintro env hp ⟨rfl,hI⟩
  simp only [cf272L0,cf272E0,go_sem,seval]
  simp [ownAt,b1,b2,hI,ownIdx]
 ·rintro d x r env hp hes ⟨rfl,hI⟩
  have hb2:(d++x :: r).length≤big:=by rw [← hes];exact hb
  have hw:=wr_mid hb2
  have hget:p.at_.es[d.length]?=some x:=by rw [hes];simp
  have e1:decide ((d.length:Int) < (p.at_.es.length:Int))=true:=by rw [hes];simp;omega
  have hown:ownAt p rank=(isLoop d.length x&&ownIdx (d.length+1) r):=by simp [ownAt,b1,b2,hI,ownIdx]
  rw [hown]
  have hlen:d.length≤9223372036854775807:=by simp only [big] at hb2;simp at hb2;omega
  have h8:=c108g A h108 (d.length:Int) (by omega)
  clear hown hes hb hb2
  cases b3:decide (x.c=0)
  case false=>
   simp only [cf272L0,cf272E0,e1,hget,b3,go_sem,seval]
   refine And.intro (by kernel_rfl) ?_
   simp [isLoop,b3]
  by_cases hl:x.ts.es.length=1
  case neg=>
   have b4:decide ((x.ts.es.length:Int)=1)=false:=by simp;omega
   have hil:isLoop d.length x=false:=by
    simp only [isLoop,b3,Bool.true_and]
    rcases h:x.ts.es with _ | ⟨t,_ | ⟨u,s⟩⟩
    ·rfl
    ·rw [h] at hl;simp at hl
    ·rfl
   simp only [cf272L0,cf272E0,e1,hget,b3,b4,go_sem,seval]
   refine And.intro (by kernel_rfl) ?_
   simp [hil]
  obtain ⟨t,ht⟩:∃ t,x.ts.es=[t]:=by
   rcases h:x.ts.es with _ | ⟨t,_ | ⟨u,s⟩⟩
   ·rw [h] at hl;simp at hl
   ·exact ⟨t,rfl⟩
   ·rw [h] at hl;simp at hl
  have b4:decide ((x.ts.es.length:Int)=1)=true:=by simp;omega
  have hg0:x.ts.es[0]?=some t:=by rw [ht];rfl
  have hil:isLoop d.length x=(decide (t.v.bs=loopU d.length)&&decide (t.c=1)):=by simp only [isLoop,b3,Bool.true_and,ht]
  rw [hil]
  clear ht hl
  simp only [cf272L0,cf272E0,e1,hget,b3,b4,hg0,go_sem,seval]
  refine XO_tree h8 (by simp only [go_sem,seval]) rfl ?_
  simp only [Coef.avc,go_sem,seval]
  refine And.intro (by kernel_rfl) ?_
  cases b5:decide (t.v.bs=loopU d.length)<;>cases b6:decide (t.c=1)
  all_goals (simp only [b5,b6,hw,go_sem,seval])
  exact ⟨rfl,by rw [hI,ownIdx,hil,b5,b6];simp⟩
end
end Go.Tev
end
section
namespace Go.Tev
section
variable {pg:Pg}
theorem c260 (A:Ora pg) (hf:pg.fs 260=some cf260) (h272:pg.fs 272=some cf272) (h273:pg.fs 273=some cf273) (h274:pg.fs 274=some cf274) (h292:pg.fs 292=some cf292) (h108:pg.fs 108=some cf108) (v rank:Int) :
  ∀ p:Pull,p.ok→Ret pg 260 [p.av,.int .i64 v,.int .i64 rank] (.bool (ownU v rank p)):=by
 refine Pull.ind' fun p ih hp=>?_
 obtain ⟨hk,hks⟩:=(Pull.ok_iff p).1 hp
 have a1:=c272 A h272 h108 p rank
 have a2:=c273 h273 h292 p.knl p.kcl p.kids hk 274 [.fp (.int .i64 v),.fp (.int .i64 rank)] rfl (fun q => !ownU v rank q) (fun q hq=>c274 h274 q v rank _ (ih q hq (hks q hq)))
 rw [Pull.avc] at a1
 have hall:(p.kids.any fun q => !ownU v rank q) = !p.kids.all (ownU v rank):=by
  rw [Bool.eq_iff_iff];simp
 rw [hall] at a2
 rw [ownU_eq,ownUs_all]
 refine Ret.ofX hf ?_
 unfold cf260
 clear ih hks hp hk hall
 cases b1:decide (p.op.bs=[114,101,97,100])
 case false=>
  have ho:own1 v rank p=true:=by simp [own1,b1]
  rw [ho]
  simp only [b1,go_sem,seval]
  refine XO_call (a2) (by simp only [ Nat.zero_add,depth,mapS_nil,mapS_cons,snapX,go_sem,seval];rfl) (by first | rfl | simp only [receive]) ?_
  simp only [Bool.not_not,go_sem,seval]
 cases b2:decide (p.value=v)
 case false=>
  have ho:own1 v rank p=true:=by simp [own1,b2]
  rw [ho]
  simp only [b1,b2,go_sem,seval]
  refine XO_call (a2) (by simp only [ Nat.zero_add,depth,mapS_nil,mapS_cons,snapX,go_sem,seval];rfl) (by first | rfl | simp only [receive]) ?_
  simp only [Bool.not_not,go_sem,seval]
 have ho:own1 v rank p=ownAt p rank:=by simp [own1,b1,b2]
 rw [ho]
 simp only [b1,b2,go_sem,seval]
 refine XO_tree a1 (by simp only [go_sem,seval]) rfl ?_
 cases b3:ownAt p rank
 case false=>
  simp only [go_sem,seval]
 simp only [go_sem,seval]
 refine XO_call (a2) (by simp only [ Nat.zero_add,depth,mapS_nil,mapS_cons,snapX,go_sem,seval];rfl) (by first | rfl | simp only [receive]) ?_
 simp only [Bool.not_not,go_sem,seval]
def loopL (n:Nat):Lin:=⟨0,⟨false,[⟨⟨loopU n,by have:=digs_len 20 n;simp only [loopU];split<;>simp [big];omega⟩,1⟩],true,by simp [big]⟩⟩
theorem linEq_loop (n:Nat) (l:Lin):linEq l (loopL n)=isLoop n l:=by
 simp only [linEq,loopL,isLoop]
 congr 1
 rcases l.ts.es with _ | ⟨t,_ | ⟨u,s⟩⟩
 ·rfl
 ·simp [eqL,coefEq]
 ·simp [eqL]
theorem c261 (hf:pg.fs 261=some cf261) (h122:∀ n:Int,n≤9223372036854775807→Ret pg 122 [.int .i64 n] (.str (loopU n))) (h162:∀ a b:Lin,Ret pg 162 [a.av,b.av] (.bool (linEq a b))) (v rank:Int) :
  ∀ p:Pull,p.ok→Ret pg 261 [p.av,.int .i64 v,.int .i64 rank] (.bool (ownU v rank p)):=by
 refine Pull.ind' fun p ih hp=>?_
 obtain ⟨hk,hks⟩:=(Pull.ok_iff p).1 hp
 rw [ownU_eq,ownUs_all]
 refine Ret.ofX hf ?_
 unfold cf261
 have hb:=p.at_.ok
 cases b1:decide (p.op.bs=[114,101,97,100])
 case' false=>
  have ho:own1 v rank p=true:=by simp [own1,b1]
  simp only [b1,go_sem,seval]
 case' true=>
  cases b2:decide (p.value=v)
  case' false=>
   have ho:own1 v rank p=true:=by simp [own1,b2]
   simp only [b1,b2,go_sem,seval]
  case' true=>
   have ho':own1 v rank p=ownAt p rank:=by simp [own1,b1,b2]
   cases b3:p.dyn
   case true=>
    have:own1 v rank p=false:=by simp [ho',ownAt,b3]
    rw [this]
    simp only [b1,b2,b3,go_sem,seval]
   cases b4:decide ((p.at_.es.length:Int)=rank)
   case false=>
    have:own1 v rank p=false:=by simp [ho',ownAt,b4]
    rw [this]
    simp only [b1,b2,b3,b4,go_sem,seval]
   have ho2:own1 v rank p=ownIdx 0 p.at_.es:=by simp [ho',ownAt,b3,b4]
   have hr:rank=(p.at_.es.length:Int):=by
    have:(p.at_.es.length:Int)=rank:=by simpa using b4
    exact this.symm
   simp only [b1,b2,b3,b4,go_sem,seval]
   refine XX_list p.at_.es (fun d r env hp=>env=cf261E0 (.int .i64 v) (.int .i64 rank) (.pt 1 0 0) (.int .i64 d.length)∧hp.get 1=some (0,.blk p.cells 9 true true false)∧ownIdx 0 p.at_.es=ownIdx d.length r) ?_ ?_ ?_
   ·exact ⟨rfl,by simp only [go_sem,seval];simp only [Pull.cells,Sl.av,Pull.kav,b3],rfl⟩
   rotate_left
   ·rintro d x r env hp hes ⟨rfl,g1,hI⟩
    have g1':=g1
    simp only [Pull.cells,Sl.av,Pull.kav] at g1
    have hb2:(d++x :: r).length≤big:=by rw [← hes];exact hb
    have hw:=wr_mid hb2
    have hget:p.at_.es[d.length]?=some x:=by rw [hes];simp
    have e1:decide ((d.length:Int) < rank)=true:=by rw [hr,hes];simp;omega
    have hlen:d.length≤9223372036854775807:=by simp only [big] at hb2;simp at hb2;omega
    have a1:=h122 (d.length:Int) (by omega)
    have a2:Ret pg 162 [x.av,.agg [.int .i64 0,.sl false [.agg [.str (loopU d.length),.int .i64 1]] true]] (.bool (isLoop d.length x)):=by
     rw [← linEq_loop]
     exact h162 x (loopL d.length)
    rw [ho2,hI]
    simp only [cf261L0,cf261E0,e1,g1,hget,go_sem,seval]
    refine XO_tree a1 (by simp only [go_sem,seval]) rfl ?_
    simp only [go_sem,seval]
    refine XO_tree a2 (by simp only [go_sem,seval]) rfl ?_
    cases b5:isLoop d.length x
    ·simp only [go_sem,seval]
     refine And.intro (by kernel_rfl) ?_
     simp [ownIdx,b5]
    ·simp only [hw,go_sem,seval]
     refine And.intro (by kernel_rfl) ?_
     exact ⟨rfl,g1',by simp [ownIdx,b5]⟩
   rintro env hp ⟨rfl,g1,hI⟩
   have ho:own1 v rank p=true:=by rw [ho2,hI];rfl
   have e1:decide ((p.at_.es.length:Int) < rank)=false:=by rw [hr];simp
   simp only [cf261L0,cf261E0,e1,go_sem,seval]
 all_goals (rw [ho,Bool.true_and])
 all_goals (refine XX_list p.kids (fun d r env hp=>env=cf261E1 (.int .i64 v) (.int .i64 rank) (.pt 1 0 0) (.int .i64 d.length)∧hp.get 1=some (0,.blk p.cells 9 true true false)∧p.kids.all (ownU v rank)=r.all (ownU v rank)) ?_ ?_ ?_)
 all_goals (first | exact ⟨rfl,g1,rfl⟩ | exact ⟨rfl,by simp only [go_sem,seval];rfl,rfl⟩ | skip)
 case false.refine_2 | true.false.refine_2 | true.true.refine_2=>
  rintro env hp ⟨rfl,g1,hI⟩
  simp only [Pull.cells,Sl.av,Pull.kav] at g1
  simp only [cf261L1,cf261E1,g1,go_sem,seval]
  rw [hI];rfl
 all_goals
  rintro d x r env hp hes ⟨rfl,g1,hI⟩
  have g1':=g1
  simp only [Pull.cells,Sl.av,Pull.kav] at g1
  have hx:=ih x (by rw [hes];simp) (hks x (by rw [hes];simp))
  have hb2:(d++x :: r).length≤big:=by rw [← hes];exact hk
  have hw:=wr_mid hb2
  have hget:p.kids[d.length]?=some x:=by rw [hes];simp
  have e1:decide ((d.length:Int) < (p.kids.length:Int))=true:=by rw [hes];simp;omega
  simp only [cf261L1,cf261E1,e1,g1,hget,go_sem,seval]
  refine XO_tree hx (by simp only [go_sem,seval]) rfl ?_
  cases b5:ownU v rank x
  ·simp only [go_sem,seval]
   simp [hI,b5]
  ·simp only [hw,go_sem,seval]
   exact ⟨rfl,g1',by simp [hI,b5]⟩
theorem c294 (hf:pg.fs 294=some cf294) (h37:∀ p:Pull,p.ok→p.sz≤big→RetP pg 37 [p.av] (IsSl 1 false ((readsR p).map intA))) (p:Pull) (hp:p.ok) (hsz:p.sz≤big) (v:Int) :
  Ret pg 294 [p.av,.int .i64 v] (.bool ((readsV p).contains v)):=by
 have a1:=h37 p hp hsz
 have hlen:=readsV_len p
 rw [← reads_eq] at a1
 rw [Pull.avc] at a1
 refine Ret.ofX hf ?_
 unfold cf294
 simp only [go_sem,seval]
 refine XO_sl a1 (by simp only [go_sem,seval]) ?_
 intro nl cl _
 simp only [go_sem,seval]
 refine XX_list (readsV p) (fun d r env hp=>env=cf294E0 (.int .i64 v) (.sl nl ((readsV p).map intA) cl) (.int .i64 d.length)∧(readsV p).contains v=r.contains v) ?_ ?_ ?_
 ·exact ⟨rfl,rfl⟩
 ·rintro env hp ⟨rfl,hI⟩
  simp only [cf294L0,cf294E0,go_sem,seval]
  rw [hI];rfl
 ·rintro d x r env hp hes ⟨rfl,hI⟩
  have hb2:(d++x :: r).length≤big:=by rw [← hes];omega
  have hw:=wr_mid hb2
  have hget:(readsV p)[d.length]?=some x:=by rw [hes];simp
  have e1:decide ((d.length:Int) < ((readsV p).length:Int))=true:=by rw [hes];simp;omega
  rw [hI]
  cases b1:decide (x=v)
  ·have:v ≠ x:=by intro h;simp [h] at b1
   simp only [cf294L0,cf294E0,e1,hget,b1,hw,go_sem,seval]
   exact ⟨rfl,by simp [this]⟩
  ·have:v=x:=by simp at b1;omega
   simp only [cf294L0,cf294E0,e1,hget,b1,go_sem,seval]
   simp [this]
theorem c316 (hf:pg.fs 316=some cf316) (nl cl:Bool) (es:List Int) (hb:es.length≤big) (v:Int) :
  RetP pg 316 [.sl nl (es.map intA) cl,.int .i64 v] (fun r=>∃ i:Int,r = .int .i64 i∧decide (0≤i)=es.any (fun y=>decide (v=y))):=
 idxV_ok (f:=316) (k:=.bin .eql) hf intA (fun _=>rfl) nl cl es hb (.int .i64 v) (fun y=>decide (v=y)) (by intro kb s h x Q t;simp only [go_sem,seval])
theorem c293 (hf:pg.fs 293=some cf293) (h316:pg.fs 316=some cf316) (nl cl:Bool) (es:List Int) (hb:es.length≤big) (v:Int) :
  Ret pg 293 [.sl nl (es.map intA) cl,.int .i64 v] (.bool (es.contains v)):=by
 have e:∀ l:List Int,l.contains v=l.any fun y=>decide (v=y):=by
  intro l
  induction l with
  | nil=>rfl
  | cons x r ih=>simp only [List.contains_cons,List.any_cons];rw [ih];rfl
 rw [e]
 exact conF_ok (n:=316) hf (by simp only [go_sem,seval]) (c316 h316 nl cl es hb v)
end
end Go.Tev
end
