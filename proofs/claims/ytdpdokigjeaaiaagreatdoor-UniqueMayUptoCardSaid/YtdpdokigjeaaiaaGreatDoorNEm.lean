import Derived.Test.YtdpdokigjeaaiaaGreatDoorNCm
set_option linter.all false
section
namespace Go.Tev
def isCmp (op:List UInt8):Bool:=decide (op=[108,116])||decide (op=[108,101])||decide (op=[103,116])||decide (op=[103,101])||decide (op=[101,113])||decide (op=[110,101])
def selU:List Bool→Bool
 | [_,b,c]=>b&&c
 | _=>false
def holdsU (op:List UInt8) (kids:List Bool):Bool:=
 if isCmp op then decide ((kids.length:Int)=2)
 else if decide (op=[115,101,108,101,99,116]) then selU kids
 else match primT op with
  | none=>false
  | some p=>decide (p.result=[98,111,111,108])&&decide ((p.params.length:Int)=(kids.length:Int)) && !kids.any (fun b=>b == false)
theorem El.bools (l:List Bool):∀ x∈l.map AV.bool,El 1 false x:=by
 intro x hx
 simp only [List.mem_map] at hx
 obtain ⟨y,_,rfl⟩:=hx
 exact ⟨rfl,rfl,rfl⟩
theorem treeL_bools (l:List Bool):Tev.treeL (l.map AV.bool)=true:=treeL_map (f:=AV.bool) (fun _=>rfl) l
theorem treeL_strs (l:List (List UInt8)):Tev.treeL (l.map AV.str)=true:=treeL_map (f:=AV.str) (fun _=>rfl) l
attribute [go_sem] treeL_bools treeL_strs
section
variable {pg:Pg}
theorem c178 (hf:pg.fs 178=some cf178) (nl cl:Bool) (es:List Bool) (hb:es.length≤big) (v:Bool) :
  RetP pg 178 [.sl nl (es.map AV.bool) cl,.bool v] (fun r=>∃ i:Int,r = .int .i64 i∧decide (0≤i)=es.any (fun b=>v == b)):=
 idxV_ok (f:=178) (k:=.beq false) hf AV.bool (fun _=>rfl) nl cl es hb (.bool v) (fun b=>v == b) (by intro kb s h x Q t;simp only [go_sem,seval])
theorem c141 (hf:pg.fs 141=some cf141) (h178:pg.fs 178=some cf178) (nl cl:Bool) (es:List Bool) (hb:es.length≤big) (v:Bool) :
  Ret pg 141 [.sl nl (es.map AV.bool) cl,.bool v] (.bool (es.any (fun b=>v == b))):=
 conF_ok (n:=178) hf (by simp only [treeL,tree_sl,tree_bool,treeL_bools,Bool.and_true]) (c178 h178 nl cl es hb v)
set_option maxHeartbeats 1000000 in
theorem c102 (hf:pg.fs 102=some cf102) (h140:∀ op,RetP pg 140 [.str op] (PrimR op)) (h141:pg.fs 141=some cf141) (h178:pg.fs 178=some cf178) (op:List UInt8) (nl cl:Bool) (kids:List Bool) (hb:kids.length≤big) :
  Ret pg 102 [.str op,.sl nl (kids.map AV.bool) cl] (.bool (holdsU op kids)):=by
 have k1:=c141 h141 h178 nl cl kids hb false
 refine Ret.ofX hf ?_
 unfold cf102
 cases hc:isCmp op
 case true=>
  have hs:holdsU op kids=decide ((kids.length:Int)=2):=by simp [holdsU,hc]
  rw [hs]
  clear h140 h141 h178 k1
  repeat' (first | simp only [*,go_sem,seval] | refine XG_split (fun _=>?_) (fun _=>?_) | refine XC_split (fun _=>?_) (fun _=>?_) | refine And.intro (by kernel_rfl) ?_)
  all_goals (exfalso;simp_all [isCmp])
 simp only [isCmp,Bool.or_eq_false_iff] at hc
 obtain ⟨⟨⟨⟨⟨q1,q2⟩,q3⟩,q4⟩,q5⟩,q6⟩:=hc
 cases hsel:decide (op=[115,101,108,101,99,116])
 case true=>
  have hs:holdsU op kids=selU kids:=by
   unfold holdsU
   rw [if_neg (by simp only [isCmp,q1,q2,q3,q4,q5,q6];decide),if_pos hsel]
  rw [hs]
  clear h140 h141 h178 k1
  match kids,hb with
  | [],_=>
   repeat' (first | simp only [*,go_sem,seval] | refine XG_split (fun _=>?_) (fun _=>?_) | refine XC_split (fun _=>?_) (fun _=>?_) | refine And.intro (by kernel_rfl) ?_)
   all_goals rfl
  | [a],_=>
   repeat' (first | simp only [*,go_sem,seval] | refine XG_split (fun _=>?_) (fun _=>?_) | refine XC_split (fun _=>?_) (fun _=>?_) | refine And.intro (by kernel_rfl) ?_)
   all_goals rfl
  | [a,b],_=>
   repeat' (first | simp only [*,go_sem,seval] | refine XG_split (fun _=>?_) (fun _=>?_) | refine XC_split (fun _=>?_) (fun _=>?_) | refine And.intro (by kernel_rfl) ?_)
   all_goals rfl
  | [a,b,c],_=>
   have e3:(((3:Nat):Int))=3:=rfl
   have t1:(1:Int).toNat=1:=rfl
   have t2:(2:Int).toNat=2:=rfl
   have z1:((0:Int)≤1)=True:=by simp
   have z2:((0:Int)≤2)=True:=by simp
   repeat' (first | simp only [*,go_sem,seval] | refine XG_split (fun _=>?_) (fun _=>?_) | refine XC_split (fun _=>?_) (fun _=>?_) | refine And.intro (by kernel_rfl) ?_)
   all_goals (simp_all [selU])
  | a :: b :: c :: d :: r,hb=>
   have h3:decide (((((r.length+1+1+1+1):Nat):Int))=3)=false:=by simp;omega
   repeat' (first | simp only [*,go_sem,seval] | refine XG_split (fun _=>?_) (fun _=>?_) | refine XC_split (fun _=>?_) (fun _=>?_) | refine And.intro (by kernel_rfl) ?_)
   all_goals rfl
 have hspec:holdsU op kids=match primT op with
  | none=>false
  | some p=>decide (p.result=[98,111,111,108])&&decide ((p.params.length:Int)=(kids.length:Int)) && !kids.any (fun b=>b == false):=by
  unfold holdsU
  rw [if_neg (by simp only [isCmp,q1,q2,q3,q4,q5,q6];decide),if_neg (by rw [hsel];decide)]
 obtain ⟨r,hr,hP⟩:=h140 op
 clear h140 h141 h178
 generalize holdsU op kids=res at hspec ⊢
 obtain ⟨nl',cl',ps,rs,ok,rfl,hres⟩:∃ nl cl,∃ ps:List (List UInt8),∃ rs ok,r = .tup [.sl nl (ps.map .str) cl,.str rs,.bool ok]∧res=(ok&&decide (rs=[98,111,111,108])&&decide ((ps.length:Int)=(kids.length:Int)) && !kids.any (fun b=>b == false)):=by
  unfold PrimR at hP
  cases hp:primT op with
  | none=>
   rw [hp] at hP hspec
   exact ⟨_,_,[],_,_,hP,by simp [hspec]⟩
  | some q=>
   rw [hp] at hP hspec
   obtain ⟨nl,cl,hP⟩:=hP
   exact ⟨_,_,q.params,_,_,hP,by simp [hspec]⟩
 clear hP hspec
 have htr:treeL (ps.map AV.str)=true:=treeL_strs ps
 have htk:=treeL_bools kids
 repeat' (first | simp only [*,go_sem,seval] | refine XG_split (fun _=>?_) (fun _=>?_) | refine XC_split (fun _=>?_) (fun _=>?_) | (refine XO_tree hr (by simp only [go_sem,seval]) rfl ?_) | (refine XO_tree k1 (by simp only [go_sem,seval]) rfl ?_) | refine And.intro (by kernel_rfl) ?_)
 all_goals (clear hr k1 htr htk)
 all_goals (simp_all)
def isConst (op:List UInt8):Bool:=decide (op=[99,111,110,115,116])||decide (op=[116,114,117,116,104])
def pickT (l:List Bool) (a:Int):Bool:=decide (0≤a)&&(decide (a < (l.length:Int))&&(l[a.toNat]?).getD false)
def stepT (l:List Bool) (s:Step):Bool:=if isConst s.op.bs then decide (s.num=0)||decide (s.num=1) else holdsU s.op.bs (s.args.es.map (pickT l))
def truthsL (l:List Bool):List Step→List Bool
 | []=>l
 | s :: r=>truthsL (l++[stepT l s]) r
def truthsU (code:List Step) (args:List Bool):Bool:=(truthsL args code).getLast?.getD false
theorem c103 (hf:pg.fs 103=some cf103) (nl cl:Bool) (es:List AV) (hel:∀ x∈es,El 1 false x) (hb:es.length≤big) (hnl:nl=true→es=[]):RetP pg 103 [.sl nl es cl] (IsSl 1 false es):=by
 refine RetP.ofX hf ?_
 unfold cf103
 simp only [go_sem,seval]
 cases nl
 ·simp only [go_sem,seval]
  refine XO_own (kb:=0) (s:=1) (bytes:=1) (es:=[]) (xs:=es) (Own.nil _ _ _ _ _ _ rfl) (by simp) hel ?_ (by decide) ?_
  ·simp only [List.length_nil,big] at *;omega
  ·intro v' rd pa ho hk hpa
   simp only [go_sem,seval]
   exact ho.conv (by simpa using hel)
 ·simp only [go_sem,seval]
  exact .inl ⟨hnl rfl,true,true,rfl,rfl⟩
def OwnS (h:Hp) (ks:List Nat) (v:AV) (es:List Bool):Prop:=∃ k∈ks,Own h k 1 false v (es.map AV.bool)
theorem OwnS.mono {h h':Hp} {ks:List Nat} {v:AV} {es:List Bool} (o:OwnS h ks v es) (hh:∀ k∈ks,h'.get k=h.get k):OwnS h' ks v es:=by
 obtain ⟨k,hk,o⟩:=o
 exact ⟨k,hk,o.mono (hh k hk)⟩
theorem unchunk_bools:∀ (l:List Bool),unchunk 1 false (l.map AV.bool)=some (l.map AV.bool)
 | []=>rfl
 | x :: r=>by
  have ih:=unchunk_bools r
  rw [List.map_cons,unchunk,ih];rfl
theorem OwnS.at {h:Hp} {ks:List Nat} {v:AV} {es:List Bool} (o:OwnS h ks v es) {n:Int} (h0:0≤n) (h1:n < es.length):∃ k e,v = .rf k e 0 es.length es.length∧h.get k=some (e,.blk (es.map AV.bool) 1 false false false)∧k∈ks:=by
 obtain ⟨k,hk,⟨he,nl,cl,rfl,hc⟩ | ⟨e,cs,rfl,hg,hu⟩⟩:=o
 ·have:es=[]:=by simpa using he
  subst this
  simp at h1;omega
 ·rw [unchunk_bools] at hu
  cases hu
  exact ⟨k,e,by simp,hg,hk⟩
theorem OwnS.len {h:Hp} {ks:List Nat} {v:AV} {es:List Bool} (o:OwnS h ks v es) (kb s:Nat) (h':Hp) (Q:AV→Eff→Prop) (t:Tok Q):XO pg kb (.len 1) s h' [v] Q t=Q (.int .i64 es.length) (.pat [] []):=by
 obtain ⟨k,hk,⟨he,nl,cl,rfl,hc⟩ | ⟨e,cs,rfl,hg,hu⟩⟩:=o
 ·have:es=[]:=by simpa using he
  subst this
  simp only [go_sem,seval]
 ·rw [List.length_map]
  simp only [go_sem,seval]
theorem OwnS.flen {h:Hp} {ks:List Nat} {v:AV} {es:List Bool} (o:OwnS h ks v es) (h':Hp):f_len h' 1 [v]=some (.int .i64 es.length,.pat [] []):=by
 obtain ⟨k,hk,⟨he,nl,cl,rfl,hc⟩ | ⟨e,cs,rfl,hg,hu⟩⟩:=o
 ·have:es=[]:=by simpa using he
  subst this
  rfl
 ·rw [List.length_map];rfl
theorem mapS_two {h:Hp} {d:Nat} {a b b':AV} {keys:List Nat} (ha:a.tree=true) (hb:Tev.snap (d+1) h b=some (b',keys)):mapS (Tev.snap (d+1) h) [a,b]=some ([a,b'],keys):=by
 simp [mapS_cons,mapS_nil,snap_tr ha,hb]
theorem c64 (hf:pg.fs 64=some cf64) (h103:pg.fs 103=some cf103) (h102:∀ (op:List UInt8) (nl cl:Bool) (kids:List Bool),kids.length≤big→Ret pg 102 [.str op,.sl nl (kids.map AV.bool) cl] (.bool (holdsU op kids)))
  (nl cl:Bool) (code:List Step) (hb:code.length≤16777216) (nl' cl':Bool) (args:List Bool) (hb':args.length≤16777216) (hnl:nl'=true→args=[]):Ret pg 64 [.sl nl (code.map Step.av) cl,.sl nl' (args.map AV.bool) cl'] (.bool (truthsU code args)):=by
 refine Ret.ofX hf ?_
 unfold cf64
 simp only [go_sem,seval]
 refine XO_slO (c103 h103 nl' cl' (args.map AV.bool) (El.bools args) (by simp [big];omega) (by intro h;simp [hnl h])) (by simp only [go_sem,seval]) (El.bools args) ?_
 intro v0 rd pa ho0 hk0 _
 simp only [go_sem,seval]
 refine XX_list code (fun d r env hp=>∃ v l,env=cf64E1 v (.sl nl (code.map Step.av) cl) (.int .i64 code.length) (.int .i64 d.length)∧OwnS hp [1,9,21] v l∧l.length=args.length+d.length∧truthsL args code=truthsL l r) ?_ ?_ ?_
 ·exact ⟨v0,args,rfl,⟨1,by simp,ho0⟩,by simp,rfl⟩
 ·rintro env hp ⟨v,l,rfl,ho,hl,hI⟩
  have hlen:=ho.flen
  have hll:∀ (l':List Bool) (b:Bool),(l'.length:Int) < ((l'++[b]).length:Int):=by
   intro l' b;rw [List.length_append,List.length_singleton];omega
  simp only [truthsL] at hI
  have hsp:truthsU code args=l.getLast?.getD false:=by rw [truthsU,hI]
  rw [hsp]
  rcases List.eq_nil_or_concat l with rfl | ⟨l',b,rfl⟩
  ·simp only [cf64L1,cf64E1,↓hlen,go_sem,seval]
   rfl
  ·rw [List.concat_eq_append] at *
   obtain ⟨k,e,rfl,hg,_⟩:=ho.at (n:=(l'.length:Int)) (by omega) (hll l' b)
   have hw:wr .i64 (((l'++[b]).length:Int) - 1)=(l'.length:Int):=by
    simp only [List.length_append,List.length_cons,List.length_nil] at *
    rw [wr_small (by omega) (by omega)];omega
   have hlt:decide ((0:Int) < ((l'++[b]).length:Int))=true:=by have:=hll l' b;simp only [decide_eq_true_eq];omega
   have hlt2:((l'.length:Int) < ((l'++[b]).length:Int))=True:=eq_true (hll l' b)
   have hgm:((l'++[b]).map AV.bool)[l'.length]?=some (.bool b):=by simp
   simp only [cf64L1,cf64E1,↓hlen,hlt,hw,hlt2,Nat.mul_one,Nat.zero_add,hg,go_sem,seval]
   simp
 ·rintro d x r env hp hes ⟨v,l,rfl,ho,hl,hI⟩
  subst hes
  have hks:∀ k∈([1,9,21]:List Nat),k=1∨k=9∨k=21:=by simp
  have hd:d.length≤16777216:=by simp at hb;omega
  have hb2:(d++x :: r).length≤big:=by simp only [big];omega
  simp only [truthsL] at hI
  cases hc:isConst x.op.bs
  case true=>
   have hst:stepT l x=(decide (x.num=0)||decide (x.num=1)):=by simp [stepT,hc]
   have hfin:∀ (hp':Hp) (c:Bool),(∀ k,k ≠ 5→hp'.get k=hp.get k)→c=stepT l x→∀ (Q:AV→Eff→Prop) (t:Tok Q),
     (∀ v' rd pa,OwnS (Eff.app hp' (.pat rd pa)) [1,9,21] v' (l++[stepT l x])→Q v' (.pat rd pa))→XO pg 0 (.app 1 false 1) 9 hp' [v,.sl false [.bool c] true] Q t:=by
    intro hp' c hk hcc Q t hq
    obtain ⟨k,hkm,ho'⟩:=ho
    refine XO_own3 (kb:=0) (s:=9) (k1:=k) (ho'.mono (hk k (by rcases hks k hkm with h | h | h<;>omega))) (El.bools l) (xs:=[.bool c]) (by intro y hy;simp at hy;subst hy;exact El.bool _) (by simp) (by simp;omega) (by omega) ?_
    intro v' rd pa ho2 _
    exact hq v' rd pa ⟨9,by simp,by simpa [hcc] using ho2⟩
   have hgp:∀ o1 o2 k,k ≠ 5→((hp.put 5 (hp.next 5) o1).put 5 (hp.next 5) o2).get k=hp.get k:=by
    intro o1 o2 k hk;rw [get_put,if_neg (Ne.symm hk),get_put,if_neg (Ne.symm hk)]
   have hor:decide (x.op.bs=[99,111,110,115,116])=true∨(decide (x.op.bs=[99,111,110,115,116])=false∧decide (x.op.bs=[116,114,117,116,104])=true):=by
    unfold isConst at hc
    cases h1:decide (x.op.bs=[99,111,110,115,116])
    ·rw [h1] at hc;exact .inr ⟨rfl,by simpa using hc⟩
    ·exact .inl rfl
   rcases hor with c1 | ⟨c1,c2⟩
   ·cases c3:decide (x.num=0)
    ·simp only [cf64L1,cf64E1,c1,c3,go_sem,seval]
     refine hfin _ _ (hgp _ _) (by rw [hst,c3];rfl) _ _ ?_
     intro v' rd pa ho2
     simp only [wr_mid hb2,go_sem,seval]
     exact ⟨v',_,rfl,ho2,by simp;omega,hI⟩
    ·simp only [cf64L1,cf64E1,c1,c3,go_sem,seval]
     refine hfin _ _ (hgp _ _) (by rw [hst,c3];rfl) _ _ ?_
     intro v' rd pa ho2
     simp only [wr_mid hb2,go_sem,seval]
     exact ⟨v',_,rfl,ho2,by simp;omega,hI⟩
   ·cases c3:decide (x.num=0)
    ·simp only [cf64L1,cf64E1,c1,c2,c3,go_sem,seval]
     refine hfin _ _ (hgp _ _) (by rw [hst,c3];rfl) _ _ ?_
     intro v' rd pa ho2
     simp only [wr_mid hb2,go_sem,seval]
     exact ⟨v',_,rfl,ho2,by simp;omega,hI⟩
    ·simp only [cf64L1,cf64E1,c1,c2,c3,go_sem,seval]
     refine hfin _ _ (hgp _ _) (by rw [hst,c3];rfl) _ _ ?_
     intro v' rd pa ho2
     simp only [wr_mid hb2,go_sem,seval]
     exact ⟨v',_,rfl,ho2,by simp;omega,hI⟩
  have hst:stepT l x=holdsU x.op.bs (x.args.es.map (pickT l)):=by simp [stepT,hc]
  simp only [isConst,Bool.or_eq_false_iff] at hc
  obtain ⟨c1,c2⟩:=hc
  have hxl:=x.args.ok
  simp only [cf64L1,cf64E1,c1,c2,go_sem,seval]
  have hlen:=ho.flen
  have hll:(l.length:Int)≤33554432:=by simp only [List.length_append,List.length_cons] at hb;omega
  have hgp:∀ o1 o2 k,k ≠ 5→((hp.put 5 (hp.next 5) o1).put 5 (hp.next 5) o2).get k=hp.get k:=by
   intro o1 o2 k hk;rw [get_put,if_neg (Ne.symm hk),get_put,if_neg (Ne.symm hk)]
  have hg5:∀ o1 o2,((hp.put 5 (hp.next 5) o1).put 5 (hp.next 5) o2).get 5=some (hp.next 5,o2):=by
   intro o1 o2;rw [get_put,if_pos rfl]
  generalize hH:(hp.put 5 (hp.next 5) (Ob.blk [AV.str [],AV.int IntKind.i64 0,AV.sl true [] true] 3 true true false)).put 5 (hp.next 5) (Ob.blk [AV.str x.op.bs,AV.int IntKind.i64 x.num,AV.sl x.args.nl (List.map intA x.args.es) x.args.cl] 3 true true false)=H
  have hH5:H.get 5=some (hp.next 5,Ob.blk [AV.str x.op.bs,AV.int IntKind.i64 x.num,AV.sl x.args.nl (List.map intA x.args.es) x.args.cl] 3 true true false):=by rw [← hH];exact hg5 _ _
  have hHk:∀ k,k ≠ 5→H.get k=hp.get k:=by intro k hk;rw [← hH];exact hgp _ _ k hk
  clear hgp hg5 hH
  refine XX_list x.args.es (fun d2 r2 env hp'=>∃ v8,env=cf64E0 v (.pt 5 (hp.next 5) 0) v8 (.sl nl ((d++x :: r).map Step.av) cl) (.int .i64 (d++x :: r).length) (.int .i64 d.length) (.sl x.args.nl (x.args.es.map intA) x.args.cl) (.int .i64 x.args.es.length) (.int .i64 d2.length) ∧
   Own hp' 13 1 false v8 ((d2.map (pickT l)).map AV.bool)∧∀ k,k ≠ 13→hp'.get k=H.get k) ?_ ?_ ?_
  ·exact ⟨_,rfl,Own.nil _ _ _ _ _ _ rfl,fun _ _=>rfl⟩
  ·rintro env hp' ⟨v8,rfl,ho8,hfr⟩
   have hg5:=(hfr 5 (by omega)).trans hH5
   simp only [cf64L0,cf64E0,hg5,go_sem,seval]
   obtain ⟨nl8,cl8,keys,hsn,hnl8⟩:=ho8.snap (El.bools _) 62
   have h2:=h102 x.op.bs nl8 cl8 (x.args.es.map (pickT l)) (by simpa using hxl)
   rw [← hst] at h2
   refine XO_call h2 (mapS_two (by simp only [go_sem,seval]) hsn) (v:=.bool (stepT l x)) (pa:=[]) rfl ?_
   simp only [go_sem,seval]
   obtain ⟨k,hkm,ho'⟩:=ho
   have hk13:k ≠ 13∧k ≠ 5:=by rcases hks k hkm with h | h | h<;>omega
   refine XO_own3 (kb:=0) (s:=21) (k1:=k) (ho'.mono ?_) (El.bools l) (xs:=[.bool (stepT l x)]) (by intro y hy;simp at hy;subst hy;exact El.bool _) (by simp) (by simp;omega) (by omega) ?_
   ·rw [hfr k hk13.1,hHk k hk13.2]
   ·intro v' rd pa ho2 _
    simp only [wr_mid hb2,go_sem,seval]
    exact ⟨v',_,rfl,⟨21,by simp,by simpa using ho2⟩,by simp;omega,hI⟩
  ·rintro d2 a r2 env hp' hes ⟨v8,rfl,ho8,hfr⟩
   have hb3:(d2++a :: r2).length≤big:=by rw [← hes];exact hxl
   have hfin:∀ (c:Bool),c=pickT l a→∀ (Q:AV→Eff→Prop) (t:Tok Q),
     (∀ v' rd pa,Own (Eff.app hp' (.pat rd pa)) 13 1 false v' (((d2++[a]).map (pickT l)).map AV.bool)→(∀ k,k ≠ 13→(Eff.app hp' (.pat rd pa)).get k=H.get k)→Q v' (.pat rd pa))→XO pg 0 (.app 1 false 1) 13 hp' [v8,.sl false [.bool c] true] Q t:=by
    intro c hcc Q t hq
    refine XO_own (kb:=0) (s:=13) ho8 (El.bools _) (xs:=[.bool c]) (by intro y hy;simp at hy;subst hy;exact El.bool _) (by simp [big] at *;omega) (by omega) ?_
    intro v' rd pa ho2 hk _
    refine hq v' rd pa (by simpa [hcc] using ho2) (fun k hk13=>?_)
    rw [hk k (by omega),hfr k hk13]
   rw [hes]
   cases z1:decide (0≤a)
   ·simp only [cf64L0,cf64E0,z1,go_sem,seval]
    refine hfin _ (by simp [pickT,z1]) _ _ ?_
    intro v' rd pa ho2 hk2
    simp only [wr_mid hb3,go_sem,seval]
    exact ⟨v',rfl,ho2,hk2⟩
   cases z2:decide (a < (l.length:Int))
   ·simp only [cf64L0,cf64E0,z1,z2,↓hlen,go_sem,seval]
    refine hfin _ (by simp [pickT,z2]) _ _ ?_
    intro v' rd pa ho2 hk2
    simp only [wr_mid hb3,go_sem,seval]
    exact ⟨v',rfl,ho2,hk2⟩
   simp only [decide_eq_true_eq] at z1 z2
   obtain ⟨k,e,hv,hg,hkm⟩:=ho.at z1 z2
   have hk13:k ≠ 13∧k ≠ 5:=by rcases hks k hkm with h | h | h<;>omega
   have hgk:hp'.get k=some (e,.blk (l.map AV.bool) 1 false false false):=by rw [hfr k hk13.1,hHk k hk13.2,hg]
   have hla:l[a.toNat]?=some (l[a.toNat]'(by omega)):=List.getElem?_eq_getElem (by omega)
   have z1':(0≤a)=True:=eq_true z1
   have z2':(a < (l.length:Int))=True:=eq_true z2
   have z3:decide (0≤a)=true:=decide_eq_true z1
   have z4:decide (a < (l.length:Int))=true:=decide_eq_true z2
   subst hv
   simp only [cf64L0,cf64E0,z3,z4,z1',z2',hgk,hla,Nat.mul_one,Nat.zero_add,go_sem,seval]
   refine hfin _ (by simp [pickT,z1,z2,hla]) _ _ ?_
   intro v' rd pa ho2 hk2
   simp only [wr_mid hb3,go_sem,seval]
   exact ⟨v',rfl,ho2,hk2⟩
end
end Go.Tev
end
section
namespace Go.Tev
def readT (vals:List Typ) (v:Int):Bool:=decide (0≤v)&&(decide (v < (vals.length:Int))&&((vals[v.toNat]?).map fun t=>decide (t.elem.bs=[98,111,111,108])).getD false)
def ifT:List Bool→Bool
 | [a,b]=>a&&b
 | _=>false
def redT (fn:List Step):List Bool→Bool
 | [a,b]=>a&&truthsU fn [true,b]
 | _=>false
def truthN (vals:List Typ) (op:List UInt8) (num value:Int) (fn:List Step) (kids:List Bool):Bool:=
 if decide (op=[99,111,110,115,116]) then decide (num=0)||decide (num=1)
 else if decide (op=[108,105,110,101,97,114]) then false
 else if decide (op=[114,101,97,100]) then readT vals value
 else if decide (op=[105,102]) then ifT kids
 else if decide (op=[114,101,100,117,99,101]) then redT fn kids
 else if decide (op=[99,111,100,101]) then truthsU fn kids
 else holdsU op kids
mutual
def truthPU (vals:List Typ):Pull→Bool
 | .mk op num value _ _ _ _ fn _ kids _=>truthN vals op.bs num value fn.es (truthPs vals kids)
def truthPs (vals:List Typ):List Pull→List Bool
 | []=>[]
 | p :: r=>truthPU vals p :: truthPs vals r
end
theorem truthPs_eq (vals:List Typ):∀ l,truthPs vals l=l.map (truthPU vals)
 | []=>rfl
 | p :: r=>by simp [truthPs,truthPs_eq vals r]
theorem truthPU_eq (vals:List Typ) (p:Pull):truthPU vals p=truthN vals p.op.bs p.num p.value p.fn.es (p.kids.map (truthPU vals)):=by
 cases p;rw [truthPU,truthPs_eq];rfl
def chkC (k:Kernels) (nl cl:Bool) (there:List Bool) (m:Int):List AV:=
 [.sl k.vars.nl (k.vars.es.map Str.av) k.vars.cl,.sl k.wher.nl (k.wher.es.map Lin.av) k.wher.cl,.int .i64 k.inputs,.sl k.values.nl (k.values.es.map Typ.av) k.values.cl,.sl k.list.nl (k.list.es.map Kernel.av) k.list.cl,.sl k.results.nl (k.results.es.map intA) k.results.cl,
  .sl nl (there.map AV.bool) cl,.int .i64 m]
theorem Own.flen {h:Hp} {k esz:Nat} {ag:Bool} {v:AV} {es:List AV} (o:Own h k esz ag v es) (h':Hp):f_len h' 1 [v]=some (.int .i64 es.length,.pat [] []):=by
 rcases o with ⟨rfl,nl,cl,rfl,hc⟩ | ⟨e,cs,rfl,hg,hu⟩
 ·rfl
 ·rfl
section
variable {pg:Pg}
set_option maxHeartbeats 1000000 in
theorem c63 (hf:pg.fs 63=some cf63) (h64:∀ (nl cl:Bool) (code:List Step),code.length≤16777216→∀ (nl' cl':Bool) (args:List Bool),args.length≤16777216→(nl'=true→args=[])→Ret pg 64 [.sl nl (code.map Step.av) cl,.sl nl' (args.map AV.bool) cl'] (.bool (truthsU code args)))
  (h102:∀ (op:List UInt8) (nl cl:Bool) (kids:List Bool),kids.length≤big→Ret pg 102 [.str op,.sl nl (kids.map AV.bool) cl] (.bool (holdsU op kids)))
  (k:Kernels) (nl cl:Bool) (there:List Bool) (m:Int):∀ p:Pull,p.ok→Ret pg 63 [.fp (.agg (chkC k nl cl there m)),p.av] (.bool (truthPU k.values.es p)):=by
 refine Pull.ind' fun p ih hp=>?_
 obtain ⟨hk,hks⟩:=(Pull.ok_iff p).1 hp
 refine Ret.ofX hf ?_
 have htr:AV.tree (.fp (.agg (chkC k nl cl there m)))=true:=by simp only [chkC];simp only [go_sem,seval]
 unfold cf63
 simp only [go_sem,seval]
 generalize hH:Hp.put [] 1 0 _=H
 have hH1:H.get 1=some (0,.blk [.str p.op.bs,.int .i64 p.num,.int .i64 p.value,.str p.name.bs,.sl p.at_.nl (p.at_.es.map Lin.av) p.at_.cl,.bool p.dyn,.int .i64 p.check,.sl p.fn.nl (p.fn.es.map Step.av) p.fn.cl,.sl p.knl (p.kids.map Pull.av) p.kcl] 9 true true false):=by
  rw [← hH,get_put,if_pos rfl]
 clear hH
 rw [truthPU_eq]
 refine XX_list p.kids (fun d r env hp=>∃ v,env=cf63E0 (.fp (.agg (chkC k nl cl there m))) (.pt 1 0 0) v (.sl p.knl (p.kids.map Pull.av) p.kcl) (.int .i64 p.kids.length) (.int .i64 d.length)∧Own hp 13 1 false v ((d.map (truthPU k.values.es)).map AV.bool)∧hp.get 1=H.get 1) ?_ ?_ ?_
 ·exact ⟨_,rfl,Own.nil _ _ _ _ _ _ rfl,rfl⟩
 ·rintro env hp ⟨v,rfl,ho,h1⟩
  rw [hH1] at h1
  have hlen:=ho.flen
  have hkl:(p.kids.map (truthPU k.values.es)).length≤big:=by simpa using hk
  generalize p.kids.map (truthPU k.values.es)=ks at ho hlen hkl ⊢
  simp only [cf63L0,cf63E0,h1,go_sem,seval]
  cases o1:decide (p.op.bs=[99,111,110,115,116])
  case true=>
   repeat' (first | simp only [*,go_sem,seval] | refine XG_split (fun _=>?_) (fun _=>?_) | refine XC_split (fun _=>?_) (fun _=>?_) | refine And.intro (by kernel_rfl) ?_)
   all_goals (simp_all [truthN])
  simp only [h1,go_sem,seval]
  cases o2:decide (p.op.bs=[108,105,110,101,97,114])
  case true=>
   simp only [go_sem,seval]
   simp [truthN,o1,o2]
  simp only [h1,go_sem,seval]
  cases o3:decide (p.op.bs=[114,101,97,100])
  case true=>
   have hs:truthN k.values.es p.op.bs p.num p.value p.fn.es ks=readT k.values.es p.value:=by simp [truthN,o1,o2,o3]
   rw [hs]
   cases z1:decide (0≤p.value)
   ·simp only [h1,z1,go_sem,seval]
    refine And.intro (by kernel_rfl) ?_
    simp [readT,z1]
   cases z2:decide (p.value < (k.values.es.length:Int))
   ·simp only [h1,z1,z2,chkC,go_sem,seval]
    refine And.intro (by kernel_rfl) ?_
    simp [readT,z2]
   simp only [decide_eq_true_eq] at z1 z2
   have z1':(0≤p.value)=True:=eq_true z1
   have z3:decide (0≤p.value)=true:=decide_eq_true z1
   have z4:decide (p.value < (k.values.es.length:Int))=true:=decide_eq_true z2
   obtain ⟨t,hla⟩:∃ t,k.values.es[p.value.toNat]?=some t:=⟨_,List.getElem?_eq_getElem (by omega)⟩
   simp only [h1,z3,z4,z1',chkC,hla,go_sem,seval]
   refine And.intro (by kernel_rfl) ?_
   simp only [readT,z3,z4,hla,Option.map_some,Option.getD_some,Bool.true_and]
  simp only [h1,go_sem,seval]
  cases o4:decide (p.op.bs=[105,102])
  case true=>
   have hs:truthN k.values.es p.op.bs p.num p.value p.fn.es ks=ifT ks:=by simp [truthN,o1,o2,o3,o4]
   rw [hs]
   match ks,ho,hlen,hkl with
   | [],ho,hlen,hkl=>
    simp only [h1,↓hlen,go_sem,seval]
    rfl
   | [a],ho,hlen,hkl=>
    simp only [h1,↓hlen,go_sem,seval]
    rfl
   | a :: b :: c :: r,ho,hlen,hkl=>
    have h3:decide (((((r.length+1+1+1):Nat):Int))=2)=false:=by simp;omega
    simp only [h1,↓hlen,h3,go_sem,seval]
    rfl
   | [a,b],ho,hlen,hkl=>
    obtain ⟨e,rfl,hg⟩:∃ e,v = .rf 13 e 0 2 2∧hp.get 13=some (e,.blk [.bool a,.bool b] 1 false false false):=by
     rcases ho with ⟨he,_⟩ | ⟨e,cs,rfl,hg,hu⟩
     ·simp at he
     ·rw [unchunk_bools] at hu;cases hu
      exact ⟨e,rfl,hg⟩
    have q1:(0:Int) < ((2:Nat):Int):=by decide
    have q2:(1:Int) < ((2:Nat):Int):=by decide
    cases a
    ·simp only [h1,hg,go_sem,seval]
     rfl
    ·simp only [h1,hg,go_sem,seval]
     rfl
  simp only [h1,go_sem,seval]
  cases o5:decide (p.op.bs=[114,101,100,117,99,101])
  case true=>
   have hs:truthN k.values.es p.op.bs p.num p.value p.fn.es ks=redT p.fn.es ks:=by simp [truthN,o1,o2,o3,o4,o5]
   rw [hs]
   match ks,ho,hlen,hkl with
   | [],ho,hlen,hkl=>
    simp only [h1,↓hlen,go_sem,seval]
    refine And.intro (by kernel_rfl) ?_
    rfl
   | [a],ho,hlen,hkl=>
    simp only [h1,↓hlen,go_sem,seval]
    refine And.intro (by kernel_rfl) ?_
    rfl
   | a :: b :: c :: r,ho,hlen,hkl=>
    have h3:decide (((((r.length+1+1+1):Nat):Int))=2)=false:=by simp;omega
    simp only [h1,↓hlen,h3,go_sem,seval]
    refine And.intro (by kernel_rfl) ?_
    rfl
   | [a,b],ho,hlen,hkl=>
    obtain ⟨e,rfl,hg⟩:∃ e,v = .rf 13 e 0 2 2∧hp.get 13=some (e,.blk [.bool a,.bool b] 1 false false false):=by
     rcases ho with ⟨he,_⟩ | ⟨e,cs,rfl,hg,hu⟩
     ·simp at he
     ·rw [unchunk_bools] at hu;cases hu
      exact ⟨e,rfl,hg⟩
    cases a
    ·simp only [h1,hg,go_sem,seval]
     refine And.intro (by kernel_rfl) ?_
     rfl
    ·simp only [h1,hg,go_sem,seval]
     refine XO_tree (h64 p.fn.nl p.fn.cl p.fn.es p.fn.ok false true [true,b] (by simp) (by intro h;cases h)) (by simp only [go_sem,seval]) rfl ?_
     simp only [go_sem,seval]
     refine And.intro (by kernel_rfl) ?_
     rfl
  simp only [h1,go_sem,seval]
  cases o6:decide (p.op.bs=[99,111,100,101])
  case true=>
   have hs:truthN k.values.es p.op.bs p.num p.value p.fn.es ks=truthsU p.fn.es ks:=by simp [truthN,o1,o2,o3,o4,o5,o6]
   rw [hs]
   simp only [h1,go_sem,seval]
   obtain ⟨nl8,cl8,keys,hsn,hnl8⟩:=ho.snap (El.bools _) 62
   have h2:=h64 p.fn.nl p.fn.cl p.fn.es p.fn.ok nl8 cl8 ks hkl (by intro h;simpa using hnl8 h)
   refine XO_call h2 (mapS_two (by simp only [go_sem,seval]) hsn) (v:=.bool (truthsU p.fn.es ks)) (pa:=[]) rfl ?_
   simp only [go_sem,seval]
  have hs:truthN k.values.es p.op.bs p.num p.value p.fn.es ks=holdsU p.op.bs ks:=by simp [truthN,o1,o2,o3,o4,o5,o6]
  rw [hs]
  simp only [h1,go_sem,seval]
  obtain ⟨nl8,cl8,keys,hsn,hnl8⟩:=ho.snap (El.bools _) 62
  have h2:=h102 p.op.bs nl8 cl8 ks hkl
  refine XO_call h2 (mapS_two (by simp only [go_sem,seval]) hsn) (v:=.bool (holdsU p.op.bs ks)) (pa:=[]) rfl ?_
  simp only [go_sem,seval]
 ·rintro d x r env hp hes ⟨v,rfl,ho,h1⟩
  have hxm:x∈p.kids:=by rw [hes];simp
  have hx:=ih x hxm (hks x hxm)
  have hb2:(d++x :: r).length≤big:=by rw [← hes];exact hk
  rw [hes]
  simp only [cf63L0,cf63E0,go_sem,seval]
  rw [Pull.avc] at hx
  refine XO_tree hx (by simp only [treeL,htr,Bool.true_and,Bool.and_true];simp only [go_sem,seval]) rfl ?_
  simp only [go_sem,seval]
  refine XO_own (kb:=0) (s:=13) (ho.mono ?_) (El.bools _) (xs:=[.bool (truthPU k.values.es x)]) (by intro y hy;simp at hy;subst hy;exact El.bool _) (by simp [big] at *;omega) (by omega) ?_
  ·simp only [go_sem,seval]
  ·intro v' rd pa ho2 hk2 _
   simp only [wr_mid hb2,go_sem,seval]
   exact ⟨v',rfl,by simpa using ho2,by rw [hk2 1 (by omega)];simp only [h1,go_sem,seval]⟩
end
end Go.Tev
end
section
namespace Go.Tev
def zeroP:Pull:=.mk ⟨[],by decide⟩ 0 0 ⟨[],by decide⟩ ⟨true,[],true,by decide⟩ false 0 ⟨true,[],true,by decide⟩ true [] true
theorem readOK_in {p:Pull} {v:Int} (h:readOK p v=true):0≤p.value∧p.value < v:=by
 simp only [readOK,Bool.and_eq_true,decide_eq_true_eq] at h
 exact ⟨h.1.1.1.2,h.1.1.2⟩
theorem valid_reads (v:Int):∀ p:Pull,∀ vars,validU v p vars=true→∀ a∈readsU p,0≤a∧a < v:=by
 refine Pull.ind' fun p ih vars h=>?_
 rw [validU_eq] at h
 simp only [Bool.and_eq_true] at h
 obtain ⟨⟨h1,_⟩,h2⟩:=h
 have hk:∀ (l:List Pull),(∀ q∈l,q∈p.kids)→∀ i red,validKs v red p.name vars i l=true→∀ a∈readsL l,0≤a∧a < v:=by
  intro l
  induction l with
  | nil=>intro _ i red _ a ha;simp [readsL] at ha
  | cons q r ih2=>
   intro hm i red hv a ha
   simp only [validKs,Bool.and_eq_true] at hv
   simp only [readsL,List.mem_append] at ha
   rcases ha with ha | ha
   ·exact ih q (hm q (by simp)) _ hv.1 a ha
   ·exact ih2 (fun q hq=>hm q (by simp [hq])) _ red hv.2 a ha
 intro a ha
 rw [readsU_eq,List.mem_append] at ha
 rcases ha with ha | ha
 ·split at ha
  ·rename_i ho
   simp only [List.mem_singleton] at ha
   subst ha
   simp only [decide_eq_true_eq] at ho
   have e1:¬ (p.op.bs=[99,111,110,115,116]):=by rw [ho];decide
   have e2:¬ (p.op.bs=[108,105,110,101,97,114]):=by rw [ho];decide
   have:nodeOK p vars v=readOK p v:=by unfold nodeOK;rw [if_neg e1,if_neg e2,if_pos ho]
   rw [this] at h1
   exact readOK_in h1
  ·simp at ha
 ·exact hk p.kids (fun q hq=>hq) 0 _ h2 a ha
def thereB (there:List Bool) (v:Int):Bool:=(there[v.toNat]?).getD false
section
variable {pg:Pg}
theorem c66 (hf:pg.fs 66=some cf66) (h105:∀ p:Pull,p.ok→∀ q:Pull,Ret pg 105 [p.av,q.av] (.bool (pullEq p q))) (p:Pull) (hp:p.ok):Ret pg 66 [p.av] (.bool (pullEq p zeroP)):=by
 have k:=h105 p hp zeroP
 rw [Pull.avc,Pull.avc] at k
 refine Ret.ofX hf ?_
 clear h105
 unfold cf66
 simp only [go_sem,seval]
 refine XO_tree k (by simp only [go_sem,seval]) rfl ?_
 simp only [go_sem,seval]
theorem c110 (hf:pg.fs 110=some cf110) (k:Kernels) (nl cl:Bool) (there:List Bool) (m nt v:Int) (h0:0≤v) (h1:v < there.length) :
  Ret pg 110 [.int .i64 v,.fp (.fp (.agg (chkC k nl cl there m))),.fp (.int .i64 nt)] (.bool (!thereB there v||decide (v=nt))):=by
 obtain ⟨b,hb⟩:∃ b,there[v.toNat]?=some b:=⟨_,List.getElem?_eq_getElem (by omega)⟩
 have ht:thereB there v=b:=by simp [thereB,hb]
 rw [ht]
 have h0':(0≤v)=True:=eq_true h0
 refine Ret.ofX hf ?_
 unfold cf110
 cases b
 ·simp only [chkC,h0',hb,go_sem,seval]
 ·simp only [chkC,h0',hb,go_sem,seval]
theorem c71 (hf:pg.fs 71=some cf71) (nl cl:Bool) (es:List Int) (hb:es.length≤big) (g:Nat) (cs:List AV) (hcs:treeL cs=true) (p:Int→Bool) (hp:∀ x∈es,Ret pg g (intA x :: cs) (.bool (p x))) :
  RetP pg 71 [.sl nl (es.map intA) cl,.fn g cs] (fun r=>∃ i:Int,r = .int .i64 i∧decide (0≤i)=es.any p):=
 idxF_ok (f:=71) (esz:=1) (ag:=false) hf intA (fun _=>rfl) (fun _=>rfl) nl cl es hb g cs hcs p hp
theorem c45 (hf:pg.fs 45=some cf45) (h71:pg.fs 71=some cf71) (nl cl:Bool) (es:List Int) (hb:es.length≤big) (g:Nat) (cs:List AV) (hcs:treeL cs=true) (p:Int→Bool) (hp:∀ x∈es,Ret pg g (intA x :: cs) (.bool (p x))) :
  Ret pg 45 [.sl nl (es.map intA) cl,.fn g cs] (.bool (es.any p)):=
 conF_ok (n:=71) hf (by simp only [treeL,tree_sl,tree_fn,hcs,intA_treeL,Bool.and_true]) (c71 h71 nl cl es hb g cs hcs p hp)
def loopStr (i:Nat):Str:=⟨loopN' i,by simp [loopN',big]⟩
def withLoops (vars:List Str) (n:Nat):List Str:=vars++(List.range n).map loopStr
def readsOK (k:Kernels) (there:List Bool) (p:Pull) (n:Nat) (nt:Int):Bool:=
 pullOK p (withLoops k.vars.es n) k.values.es.length && !(readsV p).any (fun v => !thereB there v||decide (v=nt))
theorem range_mid {n x:Nat} {d r:List Nat} (h:List.range n=d++x :: r):x=d.length∧d.length < n:=by
 have h1:(List.range n)[d.length]?=some x:=by rw [h];simp
 have h2:=congrArg List.length h
 simp at h2
 rw [List.getElem?_range (by omega)] at h1
 cases h1
 exact ⟨rfl,by omega⟩
theorem c69 (B:Base pg) (S:BaseS pg) (hf:pg.fs 69=some cf69) (h107:pg.fs 107=some cf107) (h109:∀ p:Pull,p.ok→∀ (nl cl:Bool) (vars:List Str),vars.length+p.sz≤big→∀ v:Int,Ret pg 109 [p.av,.sl nl (vars.map Str.av) cl,.int .i64 v] (.bool (pullOK p vars v)))
  (h48:pg.fs 48=some cf48) (h74:pg.fs 74=some cf74) (h110:pg.fs 110=some cf110) (h45:pg.fs 45=some cf45) (h71:pg.fs 71=some cf71)
  (k:Kernels) (hnl:k.vars.nl=true→k.vars.es=[]) (nl cl:Bool) (there:List Bool) (hth:there.length=k.values.es.length) (m:Int) (p:Pull) (hpo:p.ok) (n:Nat) (hn:n≤9) (hsz:k.vars.es.length+n+p.sz≤big) (nt:Int) :
  Ret pg 69 [.fp (.agg (chkC k nl cl there m)),p.av,.int .i64 n,.int .i64 nt] (.bool (readsOK k there p n nt)):=by
 refine Ret.ofX hf ?_
 unfold cf69
 have htr:treeL (chkC k nl cl there m)=true:=by simp only [chkC];simp only [go_sem,seval]
 simp only [chkC,go_sem,seval]
 refine XO_slO (c107 h107 k.vars.nl k.vars.cl (k.vars.es.map Str.av) (El.strs _) (by simpa using k.vars.ok) (by intro h;simp [hnl h])) (by simp only [go_sem,seval]) (El.strs _) ?_
 intro v0 rd pa ho0 hk0 _
 simp only [hk0,go_sem,seval]
 have g1:=hk0 1 (by omega)
 have g5:=hk0 5 (by omega)
 have g9:=hk0 9 (by omega)
 simp only [go_sem,seval] at g1 g5 g9
 clear hk0
 generalize hH:Eff.app _ (Eff.pat rd pa)=H at ho0 g1 g5 g9 ⊢
 clear hH
 refine XX_list (List.range n) (fun d r env hp=>∃ v kk,env=cf69E0 (.pt 1 0 0) (.pt 5 0 0) (.pt 9 0 0) v (.int .i64 n) (.int .i64 d.length)∧(kk=13∨kk=21)∧Own hp kk 1 false v ((k.vars.es++d.map loopStr).map Str.av) ∧
  hp.get 1=H.get 1∧hp.get 5=H.get 5∧hp.get 9=H.get 9) ?_ ?_ ?_
 ·exact ⟨v0,13,rfl,.inl rfl,by simpa using ho0,rfl,rfl,rfl⟩
 ·rintro env hp ⟨v,kk,rfl,hkk,ho,q1,q5,q9⟩
  have hr:(List.range n).length=n:=List.length_range
  rw [hr]
  rw [g1] at q1
  rw [g5] at q5
  rw [g9] at q9
  have ho':Own hp kk 1 false v ((withLoops k.vars.es n).map Str.av):=ho
  obtain ⟨nl8,cl8,keys,hsn,hnl8⟩:=ho'.snap (El.strs _) 62
  have h2:=h109 p hpo nl8 cl8 (withLoops k.vars.es n) (by simp [withLoops];omega) k.values.es.length
  rw [Pull.avc] at h2
  have h3:=c48 S h48 h74 p hpo (by omega)
  rw [Pull.avc] at h3
  simp only [cf69L0,cf69E0,q1,q5,q9,go_sem,seval]
  refine XO_call h2 (mapS_three (by simp only [go_sem,seval]) hsn (by simp only [go_sem,seval])) (v:=.bool (pullOK p (withLoops k.vars.es n) k.values.es.length)) (pa:=[]) rfl ?_
  cases hv:pullOK p (withLoops k.vars.es n) k.values.es.length
  ·simp only [go_sem,seval]
   refine And.intro (by kernel_rfl) ?_
   all_goals (first | (simp only [readsOK,hv];rfl) | skip)
  ·simp only [q5,go_sem,seval]
   refine XO_sl h3 (by simp only [go_sem,seval]) ?_
   intro nl9 cl9 hnl9
   simp only [go_sem,seval]
   have hrl:(readsV p).length≤big:=by
    have e1:=compI_len (sortI (readsU p))
    have e2:=sortI_len (readsU p)
    have e3:=readsU_len p
    simp only [readsV]
    omega
   have hin:∀ a∈readsV p,0≤a∧a < (there.length:Int):=by
    intro a ha
    simp only [readsV,mem_compI,mem_sortI] at ha
    rw [hth]
    have hv2:=hv
    simp only [pullOK,Bool.and_eq_true] at hv2
    exact valid_reads _ p (withLoops k.vars.es n) hv2.2 a ha
   refine XO_call (c45 h45 h71 nl9 cl9 (readsV p) hrl 110 [.fp (.fp (.agg (chkC k nl cl there m))),.fp (.int .i64 nt)] (by simp only [treeL,tree_fp,tree_agg,tree_int,htr,Bool.and_true]) (fun v => !thereB there v||decide (v=nt)) (fun v hv'=>c110 h110 k nl cl there m nt v (hin v hv').1 (hin v hv').2)) (keys:=[1,9]) ?_ (v:=.bool ((readsV p).any (fun v => !thereB there v||decide (v=nt)))) (pa:=[]) rfl ?_
   ·simp only [q1,q9,depth,mapS_nil,mapS_cons,snapX,go_sem,Nat.reduceAdd,↓reduceIte]
    rfl
   ·cases hq:(readsV p).any (fun v => !thereB there v||decide (v=nt))
    ·simp only [go_sem,seval]
     refine And.intro (by kernel_rfl) ?_
     simp only [readsOK,hv,hq];rfl
    ·simp only [go_sem,seval]
     refine And.intro (by kernel_rfl) ?_
     simp only [readsOK,hv,hq];rfl
 ·rintro d x r env hp hes ⟨v,kk,rfl,hkk,ho,q1,q5,q9⟩
  obtain ⟨hx,hlt⟩:=range_mid hes
  have hb2:(d++x :: r).length≤big:=by rw [← hes];simp [big];omega
  have e1:decide ((d.length:Int) < (n:Int))=true:=by simp;omega
  simp only [cf69L0,cf69E0,e1,go_sem,seval]
  refine XO_tree (B.loop d.length (by omega)) (by simp only [go_sem,seval]) rfl ?_
  simp only [go_sem,seval]
  refine XO_own3 (kb:=0) (s:=21) (k1:=kk) (ho.mono ?_) (El.strs _) (xs:=[.str (loopN' d.length)]) (by intro y hy;simp at hy;subst hy;exact El.str _) (by simp) ?_ (by omega) ?_
  ·simp only [go_sem,seval]
  ·simp only [List.length_map,List.length_append,List.length_cons,List.length_nil]
   simp only [big] at hsz
   omega
  ·intro v' rd' pa' ho2 hk2
   simp only [wr_mid hb2,go_sem,seval]
   refine ⟨v',21,rfl,.inr rfl,?_,?_,?_,?_⟩
   ·rw [hx];simpa [Str.av,loopStr] using ho2
   ·rw [hk2 1 (by omega) (by omega)];exact q1
   ·rw [hk2 5 (by omega) (by omega)];exact q5
   ·rw [hk2 9 (by omega) (by omega)];exact q9
end
end Go.Tev
end
section
namespace Go.Tev
def kOut (k:Kernels) (q:Kernel):Bool:=decide (q.value < k.inputs)||decide ((k.values.es.length:Int)≤q.value)||decide (q.check < 0)
def kBool (vals:List Typ) (q:Kernel) (t:Typ):Bool:=
 decide (t.elem.bs=[98,111,111,108])&&(!truthPU vals q.body||(decide (q.kind=2) && !truthsU q.fn.es [true,true]))
def kOwn (k:Kernels) (q:Kernel) (i:Nat):Bool:=
 !decide (q.kind=3) || !decide (q.source=q.value)||decide ((i:Int)=0) ||
  (match k.list.es[((i:Int) - 1).toNat]? with | none=>true | some r => !decide (r.value=q.value) || !decide (r.kind=1))
def kScan (k:Kernels) (there:List Bool) (q:Kernel) (t:Typ):Bool:=
 decide ((t.shape.dims.es.length:Int)=0)||decide (0 < (q.fn.es.length:Int))||decide (q.source < 0)||decide ((k.values.es.length:Int)≤q.source) || !thereB there q.source ||
  (match k.values.es[q.source.toNat]? with | none=>true | some u => !typEq u t)
def kPlain (q:Kernel):Bool := !decide (q.source=0) || !decide (q.check=0) || !pullEq q.index zeroP
def kDims (q:Kernel) (t:Typ):List Lin:=if decide (q.kind=3) then t.shape.dims.es.dropLast else t.shape.dims.es
def kBody (k:Kernels) (there:List Bool) (q:Kernel) (n:Nat) (nt:Int):Bool:=
 if decide (q.kind=1) then decide ((q.fn.es.length:Int)=0)&&readsOK k there q.body n nt
 else if decide (q.kind=2) then decide (0 < (n:Int))&&codeOK q.fn.es 2&&readsOK k there q.body n nt
 else if decide (q.kind=3) then readsOK k there q.body n nt&&readsOK k there q.index n nt
 else false
def kernelOK (k:Kernels) (there:List Bool) (q:Kernel) (i:Nat):Bool:=
 !kOut k q&&(match k.values.es[q.value.toNat]? with
  | none=>false
  | some t => !kBool k.values.es q t && !(thereB there q.value&&kOwn k q i) && !(if decide (q.kind=3) then kScan k there q t else kPlain q) &&
   eqL linEq q.space.es (kDims q t)&&kBody k there q (kDims q t).length (if thereB there q.value then q.value else -1))
theorem slc_last (esz:Nat) (nl cl:Bool) (es:List AV) (hb:es.length≤big) (hall:es.all (fun v=>v.cells.length == esz)=true) :
  ∃ c,decide ((es.length:Int)=0)=false→∀ h,f_slc h esz false true false [.sl nl es cl,.int .i64 (wr .i64 ((es.length:Int) - 1))]=some (.sl nl es.dropLast c,.pat [] []):=by
 by_cases h0:es.length=0
 ·exact ⟨false,fun h=>by simp [h0] at h⟩
 ·have hw:wr .i64 ((es.length:Int) - 1)=((es.length - 1:Nat):Int):=by
   simp only [big] at hb
   rw [wr_small (by omega) (by omega)];omega
  refine ⟨(nl||cl)&&(((es.length - 1:Nat):Int) == (es.length:Int)),fun _ h=>?_⟩
  rw [hw]
  simp only [f_slc,optI,sliceA,Bool.false_eq_true,if_false,if_true,Option.getD_none,Option.getD_some,hall,Option.isSome_none]
  rw [if_pos ⟨by omega,by omega,by omega,by omega,trivial⟩]
  simp only [val,Int.toNat_zero,List.drop_zero,Int.toNat_natCast,Nat.sub_zero,← List.dropLast_eq_take]
end Go.Tev
end
