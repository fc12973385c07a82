import Derived.Test.YtdpdokigjeaaiaaGreatDoorROn
import Derived.Test.YtdpdokigjeaaiaaGreatDoorNDn
set_option linter.all false
section
namespace Go.Tev
def loopU (n:Int):List UInt8:=if n < 0 then [] else 105 :: digs 20 n.toNat
theorem digs_len:∀ f u,(digs f u).length≤f
 | 0,u=>by simp [digs]
 | f+1,u=>by
  have:=digs_len f (u / 10)
  simp only [digs]
  split<;>simp<;>omega
section
variable {pg:Pg}
theorem c108g (A:Ora pg) (hf:pg.fs 108=some cf108) (n:Int) (hn:n≤9223372036854775807):Ret pg 108 [.int .i64 n] (.str (loopU n)):=by
 refine Ret.ofX hf ?_
 unfold cf108
 by_cases h:n < 0
 ·have h1:decide (n < 0)=true:=decide_eq_true h
  simp only [h1,go_sem,seval]
  rw [loopU,if_pos h]
 ·have h1:decide (n < 0)=false:=decide_eq_false h
  have a:Ret pg 93 [.int .i64 n] (.str (digs 20 n.toNat)):=by
   refine ret_ex A.f93 A.itoa ?_ rfl
   simp only [exItoa]
   rw [if_pos (by omega)]
  have hl:=digs_len 20 n.toNat
  have e2:(1+(digs 20 n.toNat).length≤9223372036854775807)=True:=eq_true (by omega)
  simp only [h1,go_sem,seval]
  refine XO_tree a (by simp only [go_sem,seval]) rfl ?_
  simp only [e2,go_sem,seval]
  rw [loopU,if_neg h]
end
end Go.Tev
end
section
namespace Go.Tev
end Go.Tev
end
section
namespace Go.Tev
def isLoop (i:Nat) (l:Lin):Bool:=decide (l.c=0)&&match l.ts.es with
 | [t]=>decide (t.v.bs=loopU i)&&decide (t.c=1)
 | _=>false
def ownIdx:Nat→List Lin→Bool
 | _,[]=>true
 | i,l :: r=>isLoop i l&&ownIdx (i+1) r
def ownAt (p:Pull) (rank:Int):Bool := !p.dyn&&(decide ((p.at_.es.length:Int)=rank)&&ownIdx 0 p.at_.es)
def own1 (v rank:Int) (p:Pull):Bool := !(decide (p.op.bs=[114,101,97,100])&&(decide (p.value=v) && !ownAt p rank))
mutual
def ownU (v rank:Int):Pull→Bool
 | .mk op num value name at_ dyn check fn knl kids kcl=>own1 v rank (.mk op num value name at_ dyn check fn knl kids kcl)&&ownUs v rank kids
def ownUs (v rank:Int):List Pull→Bool
 | []=>true
 | p :: r=>ownU v rank p&&ownUs v rank r
end
theorem ownU_eq (v rank:Int) (p:Pull):ownU v rank p=(own1 v rank p&&ownUs v rank p.kids):=by cases p;rw [ownU];rfl
theorem ownUs_all (v rank:Int):∀ l:List Pull,ownUs v rank l=l.all (ownU v rank)
 | []=>by simp [ownUs]
 | p :: r=>by simp [ownUs,ownUs_all v rank r]
def spanAt (k:Kernels) (v:Int):Sp:=((spansK k)[v.toNat]?).getD (-2,-1)
def mayQ (k:Kernels) (at_ v:Int) (q:Kernel) (a b:Typ):Bool:=
 (!decide (v=q.value)&&(decide ((spanAt k q.value).1=at_)&&(!decide ((spanAt k v).1 = -2)&&decide ((spanAt k v).2=at_))))&&(typEq a b &&
  if q.kind=3 then decide (v=q.source)&&(!(readsV q.body).contains v && !(readsV q.index).contains v) else ownU v b.shape.dims.es.length q.body)
def mayU (k:Kernels) (at_ v:Int):Bool:=
 match k.list.es[at_.toNat]?,k.values.es[v.toNat]? with
 | some q,some a=>match k.values.es[q.value.toNat]? with
  | some b=>decide (0≤at_)&&decide (0≤v)&&mayQ k at_ v q a b
  | none=>false
 | _,_=>false
def firstV (f:Nat→Bool):Nat→Nat→Int
 | _,0 => -1
 | i,n+1=>if f i then i else firstV f (i+1) n
def choicesU (k:Kernels):List Int:=(List.range k.list.es.length).map fun (i:Nat)=>firstV (fun v=>mayU k (i:Int) (v:Int)) 0 k.values.es.length
end Go.Tev
end
section
namespace Go.Tev
section
variable {pg:Pg}
theorem c292 (hf:pg.fs 292=some cf292) (nl cl:Bool) (es:List Pull) (hb:es.length≤big) (g:Nat) (cs:List AV) (hcs:treeL cs=true) (p:Pull→Bool) (hp:∀ x∈es,Ret pg g (x.av :: cs) (.bool (p x))) :
  RetP pg 292 [.sl nl (es.map Pull.av) cl,.fn g cs] (fun r=>∃ i:Int,r = .int .i64 i∧decide (0≤i)=es.any p):=
 idxF_ok (f:=292) (esz:=9) (ag:=true) hf Pull.av Pull.fits_av Pull.tree_av nl cl es hb g cs hcs p hp
theorem c273 (hf:pg.fs 273=some cf273) (h292:pg.fs 292=some cf292) (nl cl:Bool) (es:List Pull) (hb:es.length≤big) (g:Nat) (cs:List AV) (hcs:treeL cs=true) (p:Pull→Bool) (hp:∀ x∈es,Ret pg g (x.av :: cs) (.bool (p x))) :
  Ret pg 273 [.sl nl (es.map Pull.av) cl,.fn g cs] (.bool (es.any p)):=
 conF_ok (n:=292) hf (by simp only [treeL,tree_sl,tree_fn,hcs,Pull.treeL_av,Bool.and_true]) (c292 h292 nl cl es hb g cs hcs p hp)
theorem c274 (hf:pg.fs 274=some cf274) (p:Pull) (v rank:Int) (b:Bool) (h:Ret pg 260 [p.av,.int .i64 v,.int .i64 rank] (.bool b)):Ret pg 274 [p.av,.fp (.int .i64 v),.fp (.int .i64 rank)] (.bool (!b)):=by
 rw [Pull.avc] at h
 refine Ret.ofX hf ?_
 unfold cf274
 simp only [go_sem,seval]
 refine XO_tree h (by simp only [go_sem,seval]) rfl ?_
 simp only [go_sem,seval]
theorem c272 (A:Ora pg) (hf:pg.fs 272=some cf272) (h108:pg.fs 108=some cf108) (p:Pull) (rank:Int):Ret pg 272 [p.av,.int .i64 rank] (.bool (ownAt p rank)):=by
 refine Ret.ofX hf ?_
 unfold cf272
 have hb:=p.at_.ok
 cases b1:p.dyn
 case true=>
  simp only [b1,go_sem,seval]
  simp [ownAt,b1]
 cases b2:decide ((p.at_.es.length:Int)=rank)
 case false=>
  simp only [b1,b2,go_sem,seval]
  simp [ownAt,b1,b2]
 simp only [b1,b2,go_sem,seval]
 refine XX_list p.at_.es (fun d r env hp=>env=cf272E0 (.sl p.at_.nl (p.at_.es.map Lin.av) p.at_.cl) (.int .i64 p.at_.es.length) (.int .i64 d.length)∧ownIdx 0 p.at_.es=ownIdx d.length r) ?_ ?_ ?_
 ·exact ⟨rfl,rfl⟩
 ·rintro env hp ⟨rfl,hI⟩
  simp only [cf272L0,cf272E0,go_sem,seval]
  simp [ownAt,b1,b2,hI,ownIdx]
 ·rintro d x r env hp hes ⟨rfl,hI⟩
  have hb2:(d++x :: r).length≤big:=by rw [← hes];exact hb
  have hw:=wr_mid hb2
  have hget:p.at_.es[d.length]?=some x:=by rw [hes];simp
  have e1:decide ((d.length:Int) < (p.at_.es.length:Int))=true:=by rw [hes];simp;omega
  have hown:ownAt p rank=(isLoop d.length x&&ownIdx (d.length+1) r):=by simp [ownAt,b1,b2,hI,ownIdx]
  rw [hown]
  have hlen:d.length≤9223372036854775807:=by simp only [big] at hb2;simp at hb2;omega
  have h8:=c108g A h108 (d.length:Int) (by omega)
  clear hown hes hb hb2
  cases b3:decide (x.c=0)
  case false=>
   simp only [cf272L0,cf272E0,e1,hget,b3,go_sem,seval]
   refine And.intro (by kernel_rfl) ?_
   simp [isLoop,b3]
  by_cases hl:x.ts.es.length=1
  case neg=>
   have b4:decide ((x.ts.es.length:Int)=1)=false:=by simp;omega
   have hil:isLoop d.length x=false:=by
    simp only [isLoop,b3,Bool.true_and]
    rcases h:x.ts.es with _ | ⟨t,_ | ⟨u,s⟩⟩
    ·rfl
    ·rw [h] at hl;simp at hl
    ·rfl
   simp only [cf272L0,cf272E0,e1,hget,b3,b4,go_sem,seval]
   refine And.intro (by kernel_rfl) ?_
   simp [hil]
  obtain ⟨t,ht⟩:∃ t,x.ts.es=[t]:=by
   rcases h:x.ts.es with _ | ⟨t,_ | ⟨u,s⟩⟩
   ·rw [h] at hl;simp at hl
   ·exact ⟨t,rfl⟩
   ·rw [h] at hl;simp at hl
  have b4:decide ((x.ts.es.length:Int)=1)=true:=by simp;omega
  have hg0:x.ts.es[0]?=some t:=by rw [ht];rfl
  have hil:isLoop d.length x=(decide (t.v.bs=loopU d.length)&&decide (t.c=1)):=by simp only [isLoop,b3,Bool.true_and,ht]
  rw [hil]
  clear ht hl
  simp only [cf272L0,cf272E0,e1,hget,b3,b4,hg0,go_sem,seval]
  refine XO_tree h8 (by simp only [go_sem,seval]) rfl ?_
  simp only [Coef.avc,go_sem,seval]
  refine And.intro (by kernel_rfl) ?_
  cases b5:decide (t.v.bs=loopU d.length)<;>cases b6:decide (t.c=1)
  all_goals (simp only [b5,b6,hw,go_sem,seval])
  exact ⟨rfl,by rw [hI,ownIdx,hil,b5,b6];simp⟩
end
end Go.Tev
end
section
namespace Go.Tev
section
variable {pg:Pg}
theorem c260 (A:Ora pg) (hf:pg.fs 260=some cf260) (h272:pg.fs 272=some cf272) (h273:pg.fs 273=some cf273) (h274:pg.fs 274=some cf274) (h292:pg.fs 292=some cf292) (h108:pg.fs 108=some cf108) (v rank:Int) :
  ∀ p:Pull,p.ok→Ret pg 260 [p.av,.int .i64 v,.int .i64 rank] (.bool (ownU v rank p)):=by
 refine Pull.ind' fun p ih hp=>?_
 obtain ⟨hk,hks⟩:=(Pull.ok_iff p).1 hp
 have a1:=c272 A h272 h108 p rank
 have a2:=c273 h273 h292 p.knl p.kcl p.kids hk 274 [.fp (.int .i64 v),.fp (.int .i64 rank)] rfl (fun q => !ownU v rank q) (fun q hq=>c274 h274 q v rank _ (ih q hq (hks q hq)))
 rw [Pull.avc] at a1
 have hall:(p.kids.any fun q => !ownU v rank q) = !p.kids.all (ownU v rank):=by
  rw [Bool.eq_iff_iff];simp
 rw [hall] at a2
 rw [ownU_eq,ownUs_all]
 refine Ret.ofX hf ?_
 unfold cf260
 clear ih hks hp hk hall
 cases b1:decide (p.op.bs=[114,101,97,100])
 case false=>
  have ho:own1 v rank p=true:=by simp [own1,b1]
  rw [ho]
  simp only [b1,go_sem,seval]
  refine XO_call (a2) (by simp only [ Nat.zero_add,depth,mapS_nil,mapS_cons,snapX,go_sem,seval];rfl) (by first | rfl | simp only [receive]) ?_
  simp only [Bool.not_not,go_sem,seval]
 cases b2:decide (p.value=v)
 case false=>
  have ho:own1 v rank p=true:=by simp [own1,b2]
  rw [ho]
  simp only [b1,b2,go_sem,seval]
  refine XO_call (a2) (by simp only [ Nat.zero_add,depth,mapS_nil,mapS_cons,snapX,go_sem,seval];rfl) (by first | rfl | simp only [receive]) ?_
  simp only [Bool.not_not,go_sem,seval]
 have ho:own1 v rank p=ownAt p rank:=by simp [own1,b1,b2]
 rw [ho]
 simp only [b1,b2,go_sem,seval]
 refine XO_tree a1 (by simp only [go_sem,seval]) rfl ?_
 cases b3:ownAt p rank
 case false=>
  simp only [go_sem,seval]
 simp only [go_sem,seval]
 refine XO_call (a2) (by simp only [ Nat.zero_add,depth,mapS_nil,mapS_cons,snapX,go_sem,seval];rfl) (by first | rfl | simp only [receive]) ?_
 simp only [Bool.not_not,go_sem,seval]
theorem c316 (hf:pg.fs 316=some cf316) (nl cl:Bool) (es:List Int) (hb:es.length≤big) (v:Int) :
  RetP pg 316 [.sl nl (es.map intA) cl,.int .i64 v] (fun r=>∃ i:Int,r = .int .i64 i∧decide (0≤i)=es.any (fun y=>decide (v=y))):=
 idxV_ok (f:=316) (k:=.bin .eql) hf intA (fun _=>rfl) nl cl es hb (.int .i64 v) (fun y=>decide (v=y)) (by intro kb s h x Q t;simp only [go_sem,seval])
theorem c293 (hf:pg.fs 293=some cf293) (h316:pg.fs 316=some cf316) (nl cl:Bool) (es:List Int) (hb:es.length≤big) (v:Int) :
  Ret pg 293 [.sl nl (es.map intA) cl,.int .i64 v] (.bool (es.contains v)):=by
 have e:∀ l:List Int,l.contains v=l.any fun y=>decide (v=y):=by
  intro l
  induction l with
  | nil=>rfl
  | cons x r ih=>simp only [List.contains_cons,List.any_cons];rw [ih];rfl
 rw [e]
 exact conF_ok (n:=316) hf (by simp only [go_sem,seval]) (c316 h316 nl cl es hb v)
end
end Go.Tev
end
