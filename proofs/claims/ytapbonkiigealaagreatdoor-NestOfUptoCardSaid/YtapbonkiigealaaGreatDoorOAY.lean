import Derived.Test.YtapbonkiigealaaGreatDoorOAH
import Derived.Test.YtapbonkiigealaaGreatDoorOAI
import Derived.Test.YtapbonkiigealaaGreatDoorOAX
import Derived.Test.YtapbonkiigealaaGreatDoorOAW
import Derived.Test.YtapbonkiigealaaGreatDoorOAO
set_option linter.all false
section
namespace Go.Tev
section
variable {pg:Pg} {kb:Nat}
theorem f_slc_hi (h:Hp) (esz:Nat) (nl cl:Bool) (es:List AV) (n:Nat) (hn:n≤es.length) (he:∀ x∈es,x.cells.length=esz) :
  f_slc h esz false true false [.sl nl es cl,.int .i64 n]=some (.sl nl (es.take n) ((nl||cl)&&(n == es.length)),.pat [] []):=by
 have ha:(es.all fun v=>v.cells.length == esz)=true:=by simpa using he
 have h1:(0:Int)≤0∧(0:Int)≤(n:Int)∧(n:Int)≤(n:Int)∧(n:Int)≤(es.length:Int)∧(es.all fun v=>v.cells.length == esz)=true:=⟨by omega,by omega,by omega,by omega,ha⟩
 have h2:((n:Int) == (es.length:Int))=(n == es.length):=by rw [Bool.eq_iff_iff,beq_iff_eq,beq_iff_eq];omega
 simp only [f_slc,optI,sliceA,Option.getD_some,Option.getD_none,Bool.false_eq_true,if_false,if_true]
 rw [if_pos h1,h2]
 simp [val]
end
theorem freeze_get2 {h h2:Hp} {S:List Nat} {j:Nat} (hj:j ∉ S):(Eff.app h2 (.pat S (freezeK h S))).get j=h2.get j:=by
 show (putAll h2 (freezeK h S)).get j=h2.get j
 refine putAll_get_not _ _ (fun hm=>?_)
 obtain ⟨x,hx,rfl⟩:=List.mem_map.1 hm
 exact hj (freezeK_keys S h x hx)
theorem scanP_strip2 (x:Kernel) {l m:Lin} {a b:Sl Lin} (hl:l.strip=m.strip) (h:a.es.map Lin.strip=b.es.map Lin.strip):(scanP x l a).strip=(scanP x m b).strip:=by
 have e:a.mapS Lin.strip=b.mapS Lin.strip:=mapS_of h
 have e2:(oneS l).mapS Lin.strip=(oneS m).mapS Lin.strip:=mapS_of (by simp [oneS,hl])
 simp only [scanP,readP,Pull.strip,Pull.strips,e,e2]
theorem scan_eq (x:Kernel) {ds ds':List Lin} {la:Sl Coef} {n4 c4:Bool} (hbe:beforeP ds=atP 0 ds'++[varL (loopStr ds'.length) 1]) (hll:lastL ds=varL (loopStr ds'.length) 1) (hla:la.es=[⟨loopStr ds'.length,1⟩]) (hbl:(atP 0 ds'++[(⟨-1,la⟩:Lin)]).length≤big) :
  (scanP x ⟨-1,la⟩ ⟨n4,atP 0 ds'++[(⟨-1,la⟩:Lin)],c4,hbl⟩).strip=(scanP x (lastL ds) (slS (beforeP ds))).strip:=by
 have e:(⟨-1,la⟩:Lin).strip=(varL (loopStr ds'.length) 1).strip:=by
  simp only [Lin.strip,varL,oneS]
  congr 1
  congr 1
 rw [hll]
 refine scanP_strip2 x e ?_
 have hb2:(beforeP ds).length≤big:=by rw [hbe];simpa using hbl
 rw [slS_es hb2,hbe,List.map_append,List.map_append]
 simp only [List.map_cons,List.map_nil,e]
theorem scanP_cells (x:Kernel) (l:Lin) (a:Sl Lin):(scanP x l a).kids.map Pull.av=[.agg [.str [99,111,100,101],.int .i64 0,.int .i64 0,.str [],.sl true [] true,.bool false,.int .i64 0,.sl x.fn.nl (x.fn.es.map Step.av) x.fn.cl,
  .sl false [.agg [.str [114,101,97,100],.int .i64 0,.int .i64 x.value,.str [],.sl a.nl (a.es.map Lin.av) a.cl,.bool false,.int .i64 0,.sl true [] true,.sl true [] true],.agg [.str x.body.op.bs,.int .i64 x.body.num,.int .i64 x.body.value,.str x.body.name.bs,.sl x.body.at_.nl (x.body.at_.es.map Lin.av) x.body.at_.cl,.bool x.body.dyn,.int .i64 x.body.check,.sl x.body.fn.nl (x.body.fn.es.map Step.av) x.body.fn.cl,.sl x.body.knl (x.body.kids.map Pull.av) x.body.kcl]] true],.agg [.str x.body.op.bs,.int .i64 x.body.num,.int .i64 x.body.value,.str x.body.name.bs,.sl x.body.at_.nl (x.body.at_.es.map Lin.av) x.body.at_.cl,.bool x.body.dyn,.int .i64 x.body.check,.sl x.body.fn.nl (x.body.fn.es.map Step.av) x.body.fn.cl,.sl x.body.knl (x.body.kids.map Pull.av) x.body.kcl]]:=by
 simp only [scanP,readP,Pull.avc (Pull.mk _ _ _ _ _ _ _ _ _ _ _),Pull.avc x.body,Pull.op,Pull.num,Pull.value,Pull.name,Pull.at_,Pull.dyn,Pull.check,Pull.fn,Pull.knl,Pull.kids,Pull.kcl,nilS,readStr,codeStr,noStr,List.map_cons,List.map_nil]
section
variable {pg:Pg}
set_option maxRecDepth 8000 in
set_option maxHeartbeats 8000000 in
theorem c561 (hf:pg.fs 561=some cf561)
  (h580:∀ (nl cl:Bool) (ds:List Lin),ds.length < 10→RetP pg 580 [.sl nl (ds.map Lin.av) cl] (loopsR ds)) (h582:∀ n:Int,Ret pg 582 [.int .i64 n] (.agg [.int .i64 n,.sl true [] true]))
  (h581:∀ i:Nat,i < 10→RetP pg 581 [(varL (loopStr i) 0).av,.agg [.int .i64 (-1),.sl true [] true]] (fun r=>∃ a:Sl Coef,a.es=[⟨loopStr i,1⟩]∧r = .tup [(⟨-1,a⟩:Lin).av,.int .i64 0]))
  (k:Kernels) (K:KOK k) (S:Short k) (h558:∀ n:Nest,NestOK n k.vars.es→Ret pg 558 [n.av,.sl k.vars.nl (k.vars.es.map Str.av) k.vars.cl,.int .i64 k.values.es.length] (.bool (nestOK n k.vars.es k.values.es.length)))
  (i:Int) (ip:Bool):RetP pg 561 [k.av,.int .i64 i,.bool ip] (ofR k i ip):=by
 refine RetP.ofX hf ?_
 unfold cf561
 cases b1:decide (i < 0)
 case true=>
  simp only [b1,go_sem,seval]
  exact ofR_bad (by unfold ofU;rw [if_pos (of_decide_eq_true b1)])
 have hi0:¬ i < 0:=of_decide_eq_false b1
 cases b2:decide ((k.list.es.length:Int)≤i)
 case true=>
  simp only [b1,b2,go_sem,seval]
  have h2:=of_decide_eq_true b2
  exact ofR_bad (by unfold ofU;rw [if_neg hi0,List.getElem?_eq_none (by omega)])
 have h2:=of_decide_eq_false b2
 have hi1:(0≤i)=True:=eq_true (by omega)
 obtain ⟨x,hx⟩:∃ x,k.list.es[i.toNat]?=some x:=⟨_,List.getElem?_eq_getElem (by omega)⟩
 have hmem:=List.mem_of_getElem? hx
 have hsp:=S.sp x hmem
 have hof0:ofU k i ip=if x.value < 0∨(k.values.es.length:Int)≤x.value then (([],1):List Nest × Int) else
   match madeS k x ip with
   | none=>([],1)
   | some ns=>if ns.all (fun n=>nestOK n k.vars.es k.values.es.length) then (ns,0) else ([],1):=by
  unfold ofU
  rw [if_neg hi0,hx]
  try rfl
 have hout:∀ n:Nest,n.value=x.value→(x.value < 0∨(k.values.es.length:Int)≤x.value)→nestOK n k.vars.es k.values.es.length=false:=by
  intro n hn hv
  rw [nestOK,hn]
  rcases hv with hv | hv<;>simp [hv]
 obtain ⟨r0,a0,n1,c1,n2,c2,rfl⟩:=h580 x.space.nl x.space.cl x.space.es hsp
 have hlb:(loopsP 0 x.space.es).length≤big:=by rw [loopsP_len];simp only [big];omega
 have hab:(atP 0 x.space.es).length≤big:=by rw [atP_len];simp only [big];omega
 have w0:∀ p:Pull,IsWrites (⟨⟨n1,loopsP 0 x.space.es,c1,hlb⟩,x.value,⟨n2,atP 0 x.space.es,c2,hab⟩,false,zeroP,0,p⟩:Nest) x.value x.space.es p:=fun p=>⟨rfl,rfl,rfl,rfl,rfl,rfl,rfl⟩
 cases b5:decide (x.kind=1)
 case true=>
  have k1:x.kind=1:=of_decide_eq_true b5
  simp only [b1,b2,hi1,hx,Kernel.avc,go_sem,seval]
  refine XO_tree a0 (by simp only [go_sem,seval]) (by first | rfl | simp [AV.tree,go_sem]) ?_
  simp only [b5,go_sem,seval]
  generalize hn0:(⟨⟨n1,loopsP 0 x.space.es,c1,hlb⟩,x.value,⟨n2,atP 0 x.space.es,c2,hab⟩,false,zeroP,0,x.body⟩:Nest)=n0
  have w:=w0 x.body
  rw [hn0] at w
  have hmade:madeS k x ip=some [wrS x.value x.space.es x.body]:=by rw [madeS,if_pos k1]
  have hst:[n0].map Nest.strip=[wrS x.value x.space.es x.body]:=by rw [List.map_cons,w.strip hsp];rfl
  have hof:ofU k i ip=if ([wrS x.value x.space.es x.body]).all (fun n=>nestOK n k.vars.es k.values.es.length) then ([wrS x.value x.space.es x.body],0) else ([],1):=by
   rw [hof0,hmade]
   split
   ·rename_i hv
    rw [← hst,all_strip]
    simp [hout n0 (by rw [← hn0]) hv]
   ·rfl
  obtain ⟨ms,hms⟩:∃ ms:List Nest,ms=[n0]:=⟨_,rfl⟩
  rw [← hms] at hst
  have hok:∀ y∈ms,NestOK y k.vars.es:=made_ok K S hmem hmade hst
  have hbm:(ms).length≤big:=(by rw [hms];simp [big])
  have hall:(ms).all (fun n=>nestOK n k.vars.es k.values.es.length)=([wrS x.value x.space.es x.body]).all (fun n=>nestOK n k.vars.es k.values.es.length):=by rw [← hst,all_strip]
  refine XX_list (ms) (fun d r env hp=>env=cf561E0 (.pt 1 0 0) (.sl false ((ms).map Nest.av) true) (.int .i64 d.length)∧hp.get 1=some (0,.blk [.sl k.vars.nl (k.vars.es.map Str.av) k.vars.cl,.sl k.wher.nl (k.wher.es.map Lin.av) k.wher.cl,.int .i64 k.inputs,.sl k.values.nl (k.values.es.map Typ.av) k.values.cl,.sl k.list.nl (k.list.es.map Kernel.av) k.list.cl,.sl k.results.nl (k.results.es.map intA) k.results.cl] 6 true true false)∧(ms).all (fun n=>nestOK n k.vars.es k.values.es.length)=r.all (fun n=>nestOK n k.vars.es k.values.es.length)) ?_ ?_ ?_
  ·exact ⟨by subst hms;subst hn0;rfl,by simp only [go_sem,seval],rfl⟩
  ·rintro env hp ⟨rfl,g1,hI⟩
   have hI':([wrS x.value x.space.es x.body]).all (fun n=>nestOK n k.vars.es k.values.es.length)=true:=by rw [← hall,hI];rfl
   simp only [cf561L0,cf561E0,ltSelf,go_sem,seval]
   exact ofR_good (by rw [hof,hI'];rfl) hst
  ·rintro d y r env hp hes ⟨rfl,g1,hI⟩
   obtain ⟨hget,e1,e2,ew⟩:=loopF hes hbm
   have a9:=h558 y (hok y (by rw [hes];simp))
   simp only [cf561L0,cf561E0,e1,e2,hget,g1,go_sem,seval]
   refine XO_tree a9 (by simp only [go_sem,seval]) rfl ?_
   cases hy:nestOK y k.vars.es k.values.es.length
   ·simp only [go_sem,seval]
    refine And.intro (by kernel_rfl) ?_
    refine ofR_bad ?_
    have hI':([wrS x.value x.space.es x.body]).all (fun n=>nestOK n k.vars.es k.values.es.length)=false:=by rw [← hall,hI];simp [hy]
    rw [hof,hI'];rfl
   ·simp only [ew,go_sem,seval]
    refine And.intro (by kernel_rfl) ⟨rfl,g1,?_⟩
    rw [hI];simp [hy]
 have k1:¬ x.kind=1:=of_decide_eq_false b5
 cases b6:decide (x.kind=2)
 case true=>
  have k2:x.kind=2:=of_decide_eq_true b6
  by_cases hne:x.space.es=[]
  ·have hmade:madeS k x ip=none:=by rw [madeS,if_neg k1,if_pos k2,if_pos hne]
   have q1:decide (wr .i64 (((atP 0 x.space.es).length:Int) - 1) < 0)=true:=by rw [atP_len,hne];rfl
   simp only [b1,b2,hi1,hx,Kernel.avc,go_sem,seval]
   refine XO_tree a0 (by simp only [go_sem,seval]) (by first | rfl | simp [AV.tree,go_sem]) ?_
   simp only [b5,b6,q1,go_sem,seval]
   exact ofR_bad (by rw [hof0];simp only [hmade];first | done | (split<;>rfl))
  obtain ⟨ds',dl,hds⟩:∃ ds' dl,x.space.es=ds'++[dl]:=by
   rcases List.eq_nil_or_concat x.space.es with h | ⟨a,b,h⟩
   ·exact absurd h hne
   ·exact ⟨a,b,by simpa using h⟩
  have hn:x.space.es.length=ds'.length+1:=by rw [hds];simp
  have hat:atP 0 x.space.es=atP 0 ds'++[varL (loopStr ds'.length) 0]:=by rw [hds,atP_snoc]
  have hal:(atP 0 x.space.es).length=ds'.length+1:=by rw [atP_len,hn]
  have hbe:beforeP x.space.es=atP 0 ds'++[varL (loopStr ds'.length) 1]:=by rw [beforeP,hat,hn];simp
  have hll:lastL x.space.es=varL (loopStr ds'.length) 1:=by rw [lastL,hn];rfl
  have hi:ds'.length < 10:=by omega
  have q0:wr .i64 (((atP 0 x.space.es).length:Int) - 1)=(ds'.length:Int):=by rw [hal,wr_small (by omega) (by omega)];omega
  have q1:decide ((ds'.length:Int) < 0)=false:=by simp
  have q2:(atP 0 x.space.es)[ds'.length]?=some (varL (loopStr ds'.length) 0):=by rw [hat,List.getElem?_append_right (by rw [atP_len];exact Nat.le_refl _),atP_len,Nat.sub_self];rfl
  obtain ⟨r1,a1,la,hla,rfl⟩:=h581 ds'.length hi
  have z1:(⟨-1,la⟩:Lin).av=_:=Lin.avc _
  rw [z1] at a1
  have hsl:=fun h=>f_slc_hi h 2 n2 c2 ((atP 0 x.space.es).map Lin.av) ds'.length (by rw [List.length_map,hal];omega) (fun y hy=>(El.lins _ y hy).len)
  have htk:((atP 0 x.space.es).map Lin.av).take ds'.length=(atP 0 ds').map Lin.av:=by
   rw [hat,List.map_append]
   exact List.take_left' (by rw [List.length_map,atP_len])
  rw [htk] at hsl
  simp only [f_slc] at hsl
  simp only [b1,b2,hi1,hx,Kernel.avc,go_sem,seval]
  refine XO_tree a0 (by simp only [go_sem,seval]) (by first | rfl | simp [AV.tree,go_sem]) ?_
  simp only [b5,b6,q0,q1,q2,go_sem,seval]
  refine XO_tree (h582 (-1)) (by simp only [go_sem,seval]) rfl ?_
  simp only [go_sem,seval]
  refine XO_tree a1 (by simp only [go_sem,seval]) (by first | rfl | simp [AV.tree,go_sem]) ?_
  simp only [go_sem,seval]
  refine And.intro (by kernel_rfl) ?_
  simp only [hsl,go_sem,seval]
  refine XO_appNil (kb:=0) (s:=29) (xs:=(atP 0 ds').map Lin.av) (El.lins _) (by rw [List.length_map,atP_len];omega) (by decide) (fun he=>?_) (fun hne2 cs hu=>?_)
  ·have he':atP 0 ds'=[]:=by simpa using he
   simp only [go_sem,seval]
   refine XO_appNil (kb:=0) (s:=33) (xs:=[(⟨-1,la⟩:Lin).av]) (by intro y hy;simp at hy;subst hy;exact El.lin _) (by simp) (by decide) (fun h=>by cases h) (fun _ cs2 hu2=>?_)
   simp only [go_sem,seval]
   refine And.intro (by kernel_rfl) ?_
   have hu3:unchunk 2 true ((atP 0 ds').map Lin.av++[(⟨-1,la⟩:Lin).av])=some cs2:=by rw [he'];exact hu2
   have hl3:(1:Nat)=((atP 0 ds').map Lin.av++[(⟨-1,la⟩:Lin).av]).length:=by rw [he'];rfl
   generalize hH:Hp.put _ 33 0 _=H
   have o:Own H 33 2 true (.rf 33 0 0 1 1) ((atP 0 ds').map Lin.av++[(⟨-1,la⟩:Lin).av]):=.inr ⟨0,cs2,by rw [← hl3],by rw [← hH];simp only [go_sem,seval],hu3⟩
   obtain ⟨n4,c4,keys,hs,hk⟩:=o.snapK (by intro y hy;rcases List.mem_append.1 hy with hy | hy;exact El.lins _ y hy;simp at hy;subst hy;exact El.lin _) 62
   refine XO_frz hs ?_
   generalize hE:Eff.app _ (Eff.pat keys (freezeK H keys))=H4
   have f1:H4.get 1=some (0,.blk [.sl k.vars.nl (k.vars.es.map Str.av) k.vars.cl,.sl k.wher.nl (k.wher.es.map Lin.av) k.wher.cl,.int .i64 k.inputs,.sl k.values.nl (k.values.es.map Typ.av) k.values.cl,.sl k.list.nl (k.list.es.map Kernel.av) k.list.cl,.sl k.results.nl (k.results.es.map intA) k.results.cl] 6 true true false):=by
    rw [← hE,freeze_get2 (fun hm=>by have:=hk 1 hm;omega)]
    simp only [go_sem,seval]
   have f5:H4.get 5=some (0,.blk [.int .i64 x.kind,.int .i64 x.value,.sl x.space.nl (x.space.es.map Lin.av) x.space.cl,.str x.body.op.bs,.int .i64 x.body.num,.int .i64 x.body.value,.str x.body.name.bs,.sl x.body.at_.nl (x.body.at_.es.map Lin.av) x.body.at_.cl,.bool x.body.dyn,.int .i64 x.body.check,.sl x.body.fn.nl (x.body.fn.es.map Step.av) x.body.fn.cl,.sl x.body.knl (x.body.kids.map Pull.av) x.body.kcl,.sl x.fn.nl (x.fn.es.map Step.av) x.fn.cl,.int .i64 x.source,.str x.index.op.bs,.int .i64 x.index.num,.int .i64 x.index.value,.str x.index.name.bs,.sl x.index.at_.nl (x.index.at_.es.map Lin.av) x.index.at_.cl,.bool x.index.dyn,.int .i64 x.index.check,.sl x.index.fn.nl (x.index.fn.es.map Step.av) x.index.fn.cl,.sl x.index.knl (x.index.kids.map Pull.av) x.index.kcl,.int .i64 x.check] 24 true true false):=by
    rw [← hE,freeze_get2 (fun hm=>by have:=hk 5 hm;omega)]
    simp only [go_sem,seval]
   have f13:H4.get 13=some (0,.blk [.sl n1 ((loopsP 0 x.space.es).map Loop.av) c1,.int .i64 x.value,.sl n2 ((atP 0 x.space.es).map Lin.av) c2,.bool false,.str [],.int .i64 0,.int .i64 0,.str [],.sl true [] true,.bool false,.int .i64 0,.sl true [] true,.sl true [] true,.int .i64 0,.str x.body.op.bs,.int .i64 x.body.num,.int .i64 x.body.value,.str x.body.name.bs,.sl x.body.at_.nl (x.body.at_.es.map Lin.av) x.body.at_.cl,.bool x.body.dyn,.int .i64 x.body.check,.sl x.body.fn.nl (x.body.fn.es.map Step.av) x.body.fn.cl,.sl x.body.knl (x.body.kids.map Pull.av) x.body.kcl] 23 true true false):=by
    rw [← hE,freeze_get2 (fun hm=>by have:=hk 13 hm;omega)]
    simp only [go_sem,seval]
   have f25:H4.get 25=some (0,.blk [.int .i64 (-1),.sl la.nl (la.es.map Coef.av) la.cl] 2 true true false):=by
    rw [← hE,freeze_get2 (fun hm=>by have:=hk 25 hm;omega)]
    simp only [go_sem,seval]
   clear hs o hE hH
   simp only [f1,f5,f13,f25,go_sem,seval]
   have hbl:(atP 0 ds'++[(⟨-1,la⟩:Lin)]).length≤big:=by rw [List.length_append,atP_len];simp [big];omega
   have hmade:madeS k x ip=some [wrS x.value x.space.es (scanP x (lastL x.space.es) (slS (beforeP x.space.es)))]:=by rw [madeS,if_neg k1,if_pos k2,if_neg hne]
   generalize hn0:(⟨⟨n1,loopsP 0 x.space.es,c1,hlb⟩,x.value,⟨n2,atP 0 x.space.es,c2,hab⟩,false,zeroP,0,scanP x ⟨-1,la⟩ ⟨n4,atP 0 ds'++[(⟨-1,la⟩:Lin)],c4,hbl⟩⟩:Nest)=n0
   have w:=w0 (scanP x ⟨-1,la⟩ ⟨n4,atP 0 ds'++[(⟨-1,la⟩:Lin)],c4,hbl⟩)
   rw [hn0] at w
   have hst:[n0].map Nest.strip=[wrS x.value x.space.es (scanP x (lastL x.space.es) (slS (beforeP x.space.es)))]:=by
    rw [List.map_cons,w.strip hsp,wrS_congr _ _ (scan_eq x hbe hll hla hbl)]
    rfl
   have hof:ofU k i ip=if ([wrS x.value x.space.es (scanP x (lastL x.space.es) (slS (beforeP x.space.es)))]).all (fun n=>nestOK n k.vars.es k.values.es.length) then ([wrS x.value x.space.es (scanP x (lastL x.space.es) (slS (beforeP x.space.es)))],0) else ([],1):=by
    rw [hof0,hmade]
    split
    ·rename_i hv
     rw [← hst,all_strip]
     simp [hout n0 (by rw [← hn0]) hv]
    ·rfl
   obtain ⟨ms,hms⟩:∃ ms:List Nest,ms=[n0]:=⟨_,rfl⟩
   rw [← hms] at hst
   have hok:∀ y∈ms,NestOK y k.vars.es:=made_ok K S hmem hmade hst
   have hbm:(ms).length≤big:=(by rw [hms];simp [big])
   have hall:(ms).all (fun n=>nestOK n k.vars.es k.values.es.length)=([wrS x.value x.space.es (scanP x (lastL x.space.es) (slS (beforeP x.space.es)))]).all (fun n=>nestOK n k.vars.es k.values.es.length):=by rw [← hst,all_strip]
   refine XX_list (ms) (fun d r env hp=>env=cf561E0 (.pt 1 0 0) (.sl false ((ms).map Nest.av) true) (.int .i64 d.length)∧hp.get 1=some (0,.blk [.sl k.vars.nl (k.vars.es.map Str.av) k.vars.cl,.sl k.wher.nl (k.wher.es.map Lin.av) k.wher.cl,.int .i64 k.inputs,.sl k.values.nl (k.values.es.map Typ.av) k.values.cl,.sl k.list.nl (k.list.es.map Kernel.av) k.list.cl,.sl k.results.nl (k.results.es.map intA) k.results.cl] 6 true true false)∧(ms).all (fun n=>nestOK n k.vars.es k.values.es.length)=r.all (fun n=>nestOK n k.vars.es k.values.es.length)) ?_ ?_ ?_
   ·exact ⟨by subst hms;subst hn0;simp only [List.map_cons,List.map_nil,Nest.avc,scanP_cells x,List.map_append];rfl,by simp only [f1,go_sem,seval],rfl⟩
   ·rintro env hp ⟨rfl,g1,hI⟩
    have hI':([wrS x.value x.space.es (scanP x (lastL x.space.es) (slS (beforeP x.space.es)))]).all (fun n=>nestOK n k.vars.es k.values.es.length)=true:=by rw [← hall,hI];rfl
    simp only [cf561L0,cf561E0,ltSelf,go_sem,seval]
    exact ofR_good (by rw [hof,hI'];rfl) hst
   ·rintro d y r env hp hes ⟨rfl,g1,hI⟩
    obtain ⟨hget,e1,e2,ew⟩:=loopF hes hbm
    have a9:=h558 y (hok y (by rw [hes];simp))
    simp only [cf561L0,cf561E0,e1,e2,hget,g1,go_sem,seval]
    refine XO_tree a9 (by simp only [go_sem,seval]) rfl ?_
    cases hy:nestOK y k.vars.es k.values.es.length
    ·simp only [go_sem,seval]
     refine And.intro (by kernel_rfl) ?_
     refine ofR_bad ?_
     have hI':([wrS x.value x.space.es (scanP x (lastL x.space.es) (slS (beforeP x.space.es)))]).all (fun n=>nestOK n k.vars.es k.values.es.length)=false:=by rw [← hall,hI];simp [hy]
     rw [hof,hI'];rfl
    ·simp only [ew,go_sem,seval]
     refine And.intro (by kernel_rfl) ⟨rfl,g1,?_⟩
     rw [hI];simp [hy]
  ·simp only [go_sem,seval]
   refine XO_appOwn (kb:=0) (s:=33) (k:=29) (e:=0) (cs:=cs) (es:=(atP 0 ds').map Lin.av) (xs:=[(⟨-1,la⟩:Lin).av]) (by rw [List.length_map]) (by simp only [go_sem,seval]) hu (by decide) (El.lins _) (by intro y hy;simp at hy;subst hy;exact El.lin _) (by simp) (by simp [atP_len];omega) (by decide) (fun cs2 hu3=>?_)
   simp only [go_sem,seval]
   refine And.intro (by kernel_rfl) ?_
   have hl3:(atP 0 ds').length+1=((atP 0 ds').map Lin.av++[(⟨-1,la⟩:Lin).av]).length:=by simp
   generalize hH:Hp.put _ 33 0 _=H
   have o:Own H 33 2 true (.rf 33 0 0 ((atP 0 ds').length+1) ((atP 0 ds').length+1)) ((atP 0 ds').map Lin.av++[(⟨-1,la⟩:Lin).av]):=.inr ⟨0,cs2,by rw [← hl3],by rw [← hH];simp only [go_sem,seval],hu3⟩
   obtain ⟨n4,c4,keys,hs,hk⟩:=o.snapK (by intro y hy;rcases List.mem_append.1 hy with hy | hy;exact El.lins _ y hy;simp at hy;subst hy;exact El.lin _) 62
   refine XO_frz hs ?_
   generalize hE:Eff.app _ (Eff.pat keys (freezeK H keys))=H4
   have f1:H4.get 1=some (0,.blk [.sl k.vars.nl (k.vars.es.map Str.av) k.vars.cl,.sl k.wher.nl (k.wher.es.map Lin.av) k.wher.cl,.int .i64 k.inputs,.sl k.values.nl (k.values.es.map Typ.av) k.values.cl,.sl k.list.nl (k.list.es.map Kernel.av) k.list.cl,.sl k.results.nl (k.results.es.map intA) k.results.cl] 6 true true false):=by
    rw [← hE,freeze_get2 (fun hm=>by have:=hk 1 hm;omega)]
    simp only [go_sem,seval]
   have f5:H4.get 5=some (0,.blk [.int .i64 x.kind,.int .i64 x.value,.sl x.space.nl (x.space.es.map Lin.av) x.space.cl,.str x.body.op.bs,.int .i64 x.body.num,.int .i64 x.body.value,.str x.body.name.bs,.sl x.body.at_.nl (x.body.at_.es.map Lin.av) x.body.at_.cl,.bool x.body.dyn,.int .i64 x.body.check,.sl x.body.fn.nl (x.body.fn.es.map Step.av) x.body.fn.cl,.sl x.body.knl (x.body.kids.map Pull.av) x.body.kcl,.sl x.fn.nl (x.fn.es.map Step.av) x.fn.cl,.int .i64 x.source,.str x.index.op.bs,.int .i64 x.index.num,.int .i64 x.index.value,.str x.index.name.bs,.sl x.index.at_.nl (x.index.at_.es.map Lin.av) x.index.at_.cl,.bool x.index.dyn,.int .i64 x.index.check,.sl x.index.fn.nl (x.index.fn.es.map Step.av) x.index.fn.cl,.sl x.index.knl (x.index.kids.map Pull.av) x.index.kcl,.int .i64 x.check] 24 true true false):=by
    rw [← hE,freeze_get2 (fun hm=>by have:=hk 5 hm;omega)]
    simp only [go_sem,seval]
   have f13:H4.get 13=some (0,.blk [.sl n1 ((loopsP 0 x.space.es).map Loop.av) c1,.int .i64 x.value,.sl n2 ((atP 0 x.space.es).map Lin.av) c2,.bool false,.str [],.int .i64 0,.int .i64 0,.str [],.sl true [] true,.bool false,.int .i64 0,.sl true [] true,.sl true [] true,.int .i64 0,.str x.body.op.bs,.int .i64 x.body.num,.int .i64 x.body.value,.str x.body.name.bs,.sl x.body.at_.nl (x.body.at_.es.map Lin.av) x.body.at_.cl,.bool x.body.dyn,.int .i64 x.body.check,.sl x.body.fn.nl (x.body.fn.es.map Step.av) x.body.fn.cl,.sl x.body.knl (x.body.kids.map Pull.av) x.body.kcl] 23 true true false):=by
    rw [← hE,freeze_get2 (fun hm=>by have:=hk 13 hm;omega)]
    simp only [go_sem,seval]
   have f25:H4.get 25=some (0,.blk [.int .i64 (-1),.sl la.nl (la.es.map Coef.av) la.cl] 2 true true false):=by
    rw [← hE,freeze_get2 (fun hm=>by have:=hk 25 hm;omega)]
    simp only [go_sem,seval]
   clear hs o hE hH
   simp only [f1,f5,f13,f25,go_sem,seval]
   have hbl:(atP 0 ds'++[(⟨-1,la⟩:Lin)]).length≤big:=by rw [List.length_append,atP_len];simp [big];omega
   have hmade:madeS k x ip=some [wrS x.value x.space.es (scanP x (lastL x.space.es) (slS (beforeP x.space.es)))]:=by rw [madeS,if_neg k1,if_pos k2,if_neg hne]
   generalize hn0:(⟨⟨n1,loopsP 0 x.space.es,c1,hlb⟩,x.value,⟨n2,atP 0 x.space.es,c2,hab⟩,false,zeroP,0,scanP x ⟨-1,la⟩ ⟨n4,atP 0 ds'++[(⟨-1,la⟩:Lin)],c4,hbl⟩⟩:Nest)=n0
   have w:=w0 (scanP x ⟨-1,la⟩ ⟨n4,atP 0 ds'++[(⟨-1,la⟩:Lin)],c4,hbl⟩)
   rw [hn0] at w
   have hst:[n0].map Nest.strip=[wrS x.value x.space.es (scanP x (lastL x.space.es) (slS (beforeP x.space.es)))]:=by
    rw [List.map_cons,w.strip hsp,wrS_congr _ _ (scan_eq x hbe hll hla hbl)]
    rfl
   have hof:ofU k i ip=if ([wrS x.value x.space.es (scanP x (lastL x.space.es) (slS (beforeP x.space.es)))]).all (fun n=>nestOK n k.vars.es k.values.es.length) then ([wrS x.value x.space.es (scanP x (lastL x.space.es) (slS (beforeP x.space.es)))],0) else ([],1):=by
    rw [hof0,hmade]
    split
    ·rename_i hv
     rw [← hst,all_strip]
     simp [hout n0 (by rw [← hn0]) hv]
    ·rfl
   obtain ⟨ms,hms⟩:∃ ms:List Nest,ms=[n0]:=⟨_,rfl⟩
   rw [← hms] at hst
   have hok:∀ y∈ms,NestOK y k.vars.es:=made_ok K S hmem hmade hst
   have hbm:(ms).length≤big:=(by rw [hms];simp [big])
   have hall:(ms).all (fun n=>nestOK n k.vars.es k.values.es.length)=([wrS x.value x.space.es (scanP x (lastL x.space.es) (slS (beforeP x.space.es)))]).all (fun n=>nestOK n k.vars.es k.values.es.length):=by rw [← hst,all_strip]
   refine XX_list (ms) (fun d r env hp=>env=cf561E0 (.pt 1 0 0) (.sl false ((ms).map Nest.av) true) (.int .i64 d.length)∧hp.get 1=some (0,.blk [.sl k.vars.nl (k.vars.es.map Str.av) k.vars.cl,.sl k.wher.nl (k.wher.es.map Lin.av) k.wher.cl,.int .i64 k.inputs,.sl k.values.nl (k.values.es.map Typ.av) k.values.cl,.sl k.list.nl (k.list.es.map Kernel.av) k.list.cl,.sl k.results.nl (k.results.es.map intA) k.results.cl] 6 true true false)∧(ms).all (fun n=>nestOK n k.vars.es k.values.es.length)=r.all (fun n=>nestOK n k.vars.es k.values.es.length)) ?_ ?_ ?_
   ·exact ⟨by subst hms;subst hn0;simp only [List.map_cons,List.map_nil,Nest.avc,scanP_cells x,List.map_append];rfl,by simp only [f1,go_sem,seval],rfl⟩
   ·rintro env hp ⟨rfl,g1,hI⟩
    have hI':([wrS x.value x.space.es (scanP x (lastL x.space.es) (slS (beforeP x.space.es)))]).all (fun n=>nestOK n k.vars.es k.values.es.length)=true:=by rw [← hall,hI];rfl
    simp only [cf561L0,cf561E0,ltSelf,go_sem,seval]
    exact ofR_good (by rw [hof,hI'];rfl) hst
   ·rintro d y r env hp hes ⟨rfl,g1,hI⟩
    obtain ⟨hget,e1,e2,ew⟩:=loopF hes hbm
    have a9:=h558 y (hok y (by rw [hes];simp))
    simp only [cf561L0,cf561E0,e1,e2,hget,g1,go_sem,seval]
    refine XO_tree a9 (by simp only [go_sem,seval]) rfl ?_
    cases hy:nestOK y k.vars.es k.values.es.length
    ·simp only [go_sem,seval]
     refine And.intro (by kernel_rfl) ?_
     refine ofR_bad ?_
     have hI':([wrS x.value x.space.es (scanP x (lastL x.space.es) (slS (beforeP x.space.es)))]).all (fun n=>nestOK n k.vars.es k.values.es.length)=false:=by rw [← hall,hI];simp [hy]
     rw [hof,hI'];rfl
    ·simp only [ew,go_sem,seval]
     refine And.intro (by kernel_rfl) ⟨rfl,g1,?_⟩
     rw [hI];simp [hy]
 have k2:¬ x.kind=2:=of_decide_eq_false b6
 cases b7:decide (x.kind=3)
 case false=>
  have k3:¬ x.kind=3:=of_decide_eq_false b7
  have hmade:madeS k x ip=none:=by rw [madeS,if_neg k1,if_neg k2,if_neg k3]
  simp only [b1,b2,hi1,hx,Kernel.avc,go_sem,seval]
  refine XO_tree a0 (by simp only [go_sem,seval]) (by first | rfl | simp [AV.tree,go_sem]) ?_
  simp only [b5,b6,b7,go_sem,seval]
  exact ofR_bad (by rw [hof0];simp only [hmade];first | done | (split<;>rfl))
 have k3:x.kind=3:=of_decide_eq_true b7
 have hmade:madeS k x ip=some (updS k x ip):=by rw [madeS,if_neg k1,if_neg k2,if_pos k3];rfl
 cases b3:decide (x.value < 0)
 case true=>
  simp only [b1,b2,hi1,hx,Kernel.avc,go_sem,seval]
  refine XO_tree a0 (by simp only [go_sem,seval]) (by first | rfl | simp [AV.tree,go_sem]) ?_
  simp only [b5,b6,b7,b3,go_sem,seval]
  refine And.intro (by kernel_rfl) ?_
  exact ofR_bad (by rw [hof0,if_pos (.inl (of_decide_eq_true b3))])
 cases b4:decide ((k.values.es.length:Int)≤x.value)
 case true=>
  simp only [b1,b2,hi1,hx,Kernel.avc,go_sem,seval]
  refine XO_tree a0 (by simp only [go_sem,seval]) (by first | rfl | simp [AV.tree,go_sem]) ?_
  simp only [b5,b6,b7,b3,b4,go_sem,seval]
  refine And.intro (by kernel_rfl) ?_
  exact ofR_bad (by rw [hof0,if_pos (.inr (of_decide_eq_true b4))])
 have h3:=of_decide_eq_false b3
 have h4:=of_decide_eq_false b4
 have hof:ofU k i ip=if (updS k x ip).all (fun n=>nestOK n k.vars.es k.values.es.length) then (updS k x ip,0) else ([],1):=by
  rw [hof0,if_neg (by omega),hmade]
 obtain ⟨t,ht⟩:∃ t,k.values.es[x.value.toNat]?=some t:=⟨_,List.getElem?_eq_getElem (by omega)⟩
 have hdv:=S.di t (List.mem_of_getElem? ht)
 have hdim:dimsOf k x.value=t.shape.dims.es:=by rw [dimsOf,ht]
 have hv0':(0≤x.value)=True:=eq_true (by omega)
 have e3:=up_strip (w0 x.body) hsp
 generalize hn0:(⟨⟨n1,loopsP 0 x.space.es,c1,hlb⟩,x.value,⟨n2,atP 0 x.space.es,c2,hab⟩,true,x.index,x.check,x.body⟩:Nest)=n0 at e3
 cases hc:(!ip && !decide (x.source=x.value))
 case false=>
  have hsp2:updS k x ip=[upS x]:=by rw [updS,hc];rfl
  have hst:[n0].map Nest.strip=updS k x ip:=by rw [hsp2,List.map_cons,e3];rfl
  obtain ⟨ms,hms⟩:∃ ms:List Nest,ms=[n0]:=⟨_,rfl⟩
  rw [← hms] at hst
  have hok:∀ y∈ms,NestOK y k.vars.es:=made_ok K S hmem hmade hst
  have hcond:(ip=true∨(ip=false∧decide (x.source=x.value)=true)):=by cases ip<;>simp_all
  rcases hcond with rfl | ⟨rfl,b8⟩
  ·simp only [b1,b2,hi1,hx,Kernel.avc,go_sem,seval]
   refine XO_tree a0 (by simp only [go_sem,seval]) (by first | rfl | simp [AV.tree,go_sem]) ?_
   simp only [b5,b6,b7,b3,b4,go_sem,seval]
   refine And.intro (by kernel_rfl) ?_
   refine XO_own (kb:=0) (s:=49) (Own.nil _ _ _ _ true true rfl) (by simp) (xs:=[(⟨⟨n1,loopsP 0 x.space.es,c1,hlb⟩,x.value,⟨n2,atP 0 x.space.es,c2,hab⟩,true,x.index,x.check,x.body⟩:Nest).av]) (by intro y hy;simp at hy;subst hy;exact El.nest _) (by simp) (by decide) ?_
   intro v' rd pa o hk _
   rw [hn0] at o
   simp only [go_sem,seval]
   have g1:=hk 1 (by omega)
   simp only [go_sem,seval] at g1
   generalize hH:Eff.app _ (Eff.pat rd pa)=H at o g1 ⊢
   clear hH hk
   obtain ⟨n4,c4,keys,hs,hkk⟩:=o.snapK (by intro y hy;simp at hy;subst hy;exact El.nest _) 62
   refine XO_frz hs ?_
   generalize hE:Eff.app _ (Eff.pat keys (freezeK H keys))=H4
   have f1:H4.get 1=some (0,.blk [.sl k.vars.nl (k.vars.es.map Str.av) k.vars.cl,.sl k.wher.nl (k.wher.es.map Lin.av) k.wher.cl,.int .i64 k.inputs,.sl k.values.nl (k.values.es.map Typ.av) k.values.cl,.sl k.list.nl (k.list.es.map Kernel.av) k.list.cl,.sl k.results.nl (k.results.es.map intA) k.results.cl] 6 true true false):=by
    rw [← hE,freeze_get2 (fun hm=>by have:=hkk 1 hm;omega)]
    first | exact g1 | (simp only [go_sem,seval];exact g1)
   clear hs hE
   simp only [f1,go_sem,seval]
   have hbm:(ms).length≤big:=(by rw [hms];simp [big])
   have hall:(ms).all (fun n=>nestOK n k.vars.es k.values.es.length)=(updS k x true).all (fun n=>nestOK n k.vars.es k.values.es.length):=by rw [← hst,all_strip]
   refine XX_list (ms) (fun d r env hp=>env=cf561E0 (.pt 1 0 0) (.sl n4 ((ms).map Nest.av) c4) (.int .i64 d.length)∧hp.get 1=some (0,.blk [.sl k.vars.nl (k.vars.es.map Str.av) k.vars.cl,.sl k.wher.nl (k.wher.es.map Lin.av) k.wher.cl,.int .i64 k.inputs,.sl k.values.nl (k.values.es.map Typ.av) k.values.cl,.sl k.list.nl (k.list.es.map Kernel.av) k.list.cl,.sl k.results.nl (k.results.es.map intA) k.results.cl] 6 true true false)∧(ms).all (fun n=>nestOK n k.vars.es k.values.es.length)=r.all (fun n=>nestOK n k.vars.es k.values.es.length)) ?_ ?_ ?_
   ·exact ⟨by subst hms;rfl,by simp only [f1,go_sem,seval],rfl⟩
   ·rintro env hp ⟨rfl,g1,hI⟩
    have hI':(updS k x true).all (fun n=>nestOK n k.vars.es k.values.es.length)=true:=by rw [← hall,hI];rfl
    simp only [cf561L0,cf561E0,ltSelf,go_sem,seval]
    exact ofR_good (by rw [hof,hI'];rfl) hst
   ·rintro d y r env hp hes ⟨rfl,g1,hI⟩
    obtain ⟨hget,e1,e2,ew⟩:=loopF hes hbm
    have a9:=h558 y (hok y (by rw [hes];simp))
    simp only [cf561L0,cf561E0,e1,e2,hget,g1,go_sem,seval]
    refine XO_tree a9 (by simp only [go_sem,seval]) rfl ?_
    cases hy:nestOK y k.vars.es k.values.es.length
    ·simp only [go_sem,seval]
     refine And.intro (by kernel_rfl) ?_
     refine ofR_bad ?_
     have hI':(updS k x true).all (fun n=>nestOK n k.vars.es k.values.es.length)=false:=by rw [← hall,hI];simp [hy]
     rw [hof,hI'];rfl
    ·simp only [ew,go_sem,seval]
     refine And.intro (by kernel_rfl) ⟨rfl,g1,?_⟩
     rw [hI];simp [hy]
  ·simp only [b1,b2,hi1,hx,Kernel.avc,go_sem,seval]
   refine XO_tree a0 (by simp only [go_sem,seval]) (by first | rfl | simp [AV.tree,go_sem]) ?_
   simp only [b5,b6,b7,b3,b4,b8,go_sem,seval]
   refine And.intro (by kernel_rfl) ?_
   refine XO_own (kb:=0) (s:=49) (Own.nil _ _ _ _ true true rfl) (by simp) (xs:=[(⟨⟨n1,loopsP 0 x.space.es,c1,hlb⟩,x.value,⟨n2,atP 0 x.space.es,c2,hab⟩,true,x.index,x.check,x.body⟩:Nest).av]) (by intro y hy;simp at hy;subst hy;exact El.nest _) (by simp) (by decide) ?_
   intro v' rd pa o hk _
   rw [hn0] at o
   simp only [go_sem,seval]
   have g1:=hk 1 (by omega)
   simp only [go_sem,seval] at g1
   generalize hH:Eff.app _ (Eff.pat rd pa)=H at o g1 ⊢
   clear hH hk
   obtain ⟨n4,c4,keys,hs,hkk⟩:=o.snapK (by intro y hy;simp at hy;subst hy;exact El.nest _) 62
   refine XO_frz hs ?_
   generalize hE:Eff.app _ (Eff.pat keys (freezeK H keys))=H4
   have f1:H4.get 1=some (0,.blk [.sl k.vars.nl (k.vars.es.map Str.av) k.vars.cl,.sl k.wher.nl (k.wher.es.map Lin.av) k.wher.cl,.int .i64 k.inputs,.sl k.values.nl (k.values.es.map Typ.av) k.values.cl,.sl k.list.nl (k.list.es.map Kernel.av) k.list.cl,.sl k.results.nl (k.results.es.map intA) k.results.cl] 6 true true false):=by
    rw [← hE,freeze_get2 (fun hm=>by have:=hkk 1 hm;omega)]
    first | exact g1 | (simp only [go_sem,seval];exact g1)
   clear hs hE
   simp only [f1,go_sem,seval]
   have hbm:(ms).length≤big:=(by rw [hms];simp [big])
   have hall:(ms).all (fun n=>nestOK n k.vars.es k.values.es.length)=(updS k x false).all (fun n=>nestOK n k.vars.es k.values.es.length):=by rw [← hst,all_strip]
   refine XX_list (ms) (fun d r env hp=>env=cf561E0 (.pt 1 0 0) (.sl n4 ((ms).map Nest.av) c4) (.int .i64 d.length)∧hp.get 1=some (0,.blk [.sl k.vars.nl (k.vars.es.map Str.av) k.vars.cl,.sl k.wher.nl (k.wher.es.map Lin.av) k.wher.cl,.int .i64 k.inputs,.sl k.values.nl (k.values.es.map Typ.av) k.values.cl,.sl k.list.nl (k.list.es.map Kernel.av) k.list.cl,.sl k.results.nl (k.results.es.map intA) k.results.cl] 6 true true false)∧(ms).all (fun n=>nestOK n k.vars.es k.values.es.length)=r.all (fun n=>nestOK n k.vars.es k.values.es.length)) ?_ ?_ ?_
   ·exact ⟨by subst hms;rfl,by simp only [f1,go_sem,seval],rfl⟩
   ·rintro env hp ⟨rfl,g1,hI⟩
    have hI':(updS k x false).all (fun n=>nestOK n k.vars.es k.values.es.length)=true:=by rw [← hall,hI];rfl
    simp only [cf561L0,cf561E0,ltSelf,go_sem,seval]
    exact ofR_good (by rw [hof,hI'];rfl) hst
   ·rintro d y r env hp hes ⟨rfl,g1,hI⟩
    obtain ⟨hget,e1,e2,ew⟩:=loopF hes hbm
    have a9:=h558 y (hok y (by rw [hes];simp))
    simp only [cf561L0,cf561E0,e1,e2,hget,g1,go_sem,seval]
    refine XO_tree a9 (by simp only [go_sem,seval]) rfl ?_
    cases hy:nestOK y k.vars.es k.values.es.length
    ·simp only [go_sem,seval]
     refine And.intro (by kernel_rfl) ?_
     refine ofR_bad ?_
     have hI':(updS k x false).all (fun n=>nestOK n k.vars.es k.values.es.length)=false:=by rw [← hall,hI];simp [hy]
     rw [hof,hI'];rfl
    ·simp only [ew,go_sem,seval]
     refine And.intro (by kernel_rfl) ⟨rfl,g1,?_⟩
     rw [hI];simp [hy]
 case true=>
  obtain ⟨rfl,b8⟩:ip=false∧decide (x.source=x.value)=false:=by cases ip<;>simp_all
  have hsp2:updS k x false=[wrS x.value t.shape.dims.es (readP x.source (slS (atP 0 t.shape.dims.es))),upS x]:=by rw [updS,hc,hdim];rfl
  obtain ⟨r1,a1,m1,d1,m2,d2,rfl⟩:=h580 t.shape.dims.nl t.shape.dims.cl t.shape.dims.es hdv
  have hl2:(loopsP 0 t.shape.dims.es).length≤big:=by rw [loopsP_len];simp only [big];omega
  have ha2:(atP 0 t.shape.dims.es).length≤big:=by rw [atP_len];simp only [big];omega
  generalize hc0:(⟨⟨m1,loopsP 0 t.shape.dims.es,d1,hl2⟩,x.value,⟨m2,atP 0 t.shape.dims.es,d2,ha2⟩,false,zeroP,0,readP x.source ⟨m2,atP 0 t.shape.dims.es,d2,ha2⟩⟩:Nest)=c0
  have w2:IsWrites c0 x.value t.shape.dims.es (readP x.source ⟨m2,atP 0 t.shape.dims.es,d2,ha2⟩):=by rw [← hc0];exact ⟨rfl,rfl,rfl,rfl,rfl,rfl,rfl⟩
  have e2:c0.strip=wrS x.value t.shape.dims.es (readP x.source (slS (atP 0 t.shape.dims.es))):=by
   rw [w2.strip hdv]
   exact wrS_congr _ _ (readP_strip _ (by rw [slS_es ha2]))
  have hst:[c0,n0].map Nest.strip=updS k x false:=by rw [hsp2,List.map_cons,List.map_cons,e2,e3];rfl
  obtain ⟨ms,hms⟩:∃ ms:List Nest,ms=[c0,n0]:=⟨_,rfl⟩
  rw [← hms] at hst
  have hok:∀ y∈ms,NestOK y k.vars.es:=made_ok K S hmem hmade hst
  simp only [b1,b2,hi1,hx,Kernel.avc,go_sem,seval]
  refine XO_tree a0 (by simp only [go_sem,seval]) (by first | rfl | simp [AV.tree,go_sem]) ?_
  simp only [b5,b6,b7,b3,b4,b8,go_sem,seval]
  refine And.intro (by kernel_rfl) ?_
  simp only [ht,hv0',go_sem,seval]
  refine XO_tree a1 (by simp only [go_sem,seval]) (by first | rfl | simp [AV.tree,go_sem]) ?_
  simp only [ht,hv0',go_sem,seval]
  refine XO_own (kb:=0) (s:=45) (Own.nil _ _ _ _ true true rfl) (by simp) (xs:=[(⟨⟨m1,loopsP 0 t.shape.dims.es,d1,hl2⟩,x.value,⟨m2,atP 0 t.shape.dims.es,d2,ha2⟩,false,zeroP,0,readP x.source ⟨m2,atP 0 t.shape.dims.es,d2,ha2⟩⟩:Nest).av]) (by intro y hy;simp at hy;subst hy;exact El.nest _) (by simp) (by decide) ?_
  intro v1' rd1 pa1 o1 hk1 _
  rw [hc0] at o1
  simp only [go_sem,seval]
  have g1:=hk1 1 (by omega)
  have g13:=hk1 13 (by omega)
  simp only [go_sem,seval] at g1 g13
  generalize hH:Eff.app _ (Eff.pat rd1 pa1)=H1 at o1 g1 g13 ⊢
  clear hH hk1
  simp only [g1,g13,go_sem,seval]
  refine XO_own3 (kb:=0) (s:=49) (k1:=45) o1 (by intro y hy;simp at hy;subst hy;exact El.nest _) (xs:=[(⟨⟨n1,loopsP 0 x.space.es,c1,hlb⟩,x.value,⟨n2,atP 0 x.space.es,c2,hab⟩,true,x.index,x.check,x.body⟩:Nest).av]) (by intro y hy;simp at hy;subst hy;exact El.nest _) (by simp) (by simp) (by decide) ?_
  intro v' rd pa o hk
  rw [hn0] at o
  simp only [go_sem,seval]
  have g1:=(hk 1 (by omega) (by omega)).trans g1
  generalize hH:Eff.app _ (Eff.pat rd pa)=H at o g1 ⊢
  clear hH hk
  obtain ⟨n4,c4,keys,hs,hkk⟩:=o.snapK (by intro y hy;simp at hy;rcases hy with rfl | rfl<;>exact El.nest _) 62
  refine XO_frz hs ?_
  generalize hE:Eff.app _ (Eff.pat keys (freezeK H keys))=H4
  have f1:H4.get 1=some (0,.blk [.sl k.vars.nl (k.vars.es.map Str.av) k.vars.cl,.sl k.wher.nl (k.wher.es.map Lin.av) k.wher.cl,.int .i64 k.inputs,.sl k.values.nl (k.values.es.map Typ.av) k.values.cl,.sl k.list.nl (k.list.es.map Kernel.av) k.list.cl,.sl k.results.nl (k.results.es.map intA) k.results.cl] 6 true true false):=by
   rw [← hE,freeze_get2 (fun hm=>by have:=hkk 1 hm;omega)]
   first | exact g1 | (simp only [go_sem,seval];exact g1)
  clear hs hE
  simp only [f1,go_sem,seval]
  have hbm:(ms).length≤big:=(by rw [hms];simp [big])
  have hall:(ms).all (fun n=>nestOK n k.vars.es k.values.es.length)=(updS k x false).all (fun n=>nestOK n k.vars.es k.values.es.length):=by rw [← hst,all_strip]
  refine XX_list (ms) (fun d r env hp=>env=cf561E0 (.pt 1 0 0) (.sl n4 ((ms).map Nest.av) c4) (.int .i64 d.length)∧hp.get 1=some (0,.blk [.sl k.vars.nl (k.vars.es.map Str.av) k.vars.cl,.sl k.wher.nl (k.wher.es.map Lin.av) k.wher.cl,.int .i64 k.inputs,.sl k.values.nl (k.values.es.map Typ.av) k.values.cl,.sl k.list.nl (k.list.es.map Kernel.av) k.list.cl,.sl k.results.nl (k.results.es.map intA) k.results.cl] 6 true true false)∧(ms).all (fun n=>nestOK n k.vars.es k.values.es.length)=r.all (fun n=>nestOK n k.vars.es k.values.es.length)) ?_ ?_ ?_
  ·exact ⟨by subst hms;rfl,by simp only [f1,go_sem,seval],rfl⟩
  ·rintro env hp ⟨rfl,g1,hI⟩
   have hI':(updS k x false).all (fun n=>nestOK n k.vars.es k.values.es.length)=true:=by rw [← hall,hI];rfl
   simp only [cf561L0,cf561E0,ltSelf,go_sem,seval]
   exact ofR_good (by rw [hof,hI'];rfl) hst
  ·rintro d y r env hp hes ⟨rfl,g1,hI⟩
   obtain ⟨hget,e1,e2,ew⟩:=loopF hes hbm
   have a9:=h558 y (hok y (by rw [hes];simp))
   simp only [cf561L0,cf561E0,e1,e2,hget,g1,go_sem,seval]
   refine XO_tree a9 (by simp only [go_sem,seval]) rfl ?_
   cases hy:nestOK y k.vars.es k.values.es.length
   ·simp only [go_sem,seval]
    refine And.intro (by kernel_rfl) ?_
    refine ofR_bad ?_
    have hI':(updS k x false).all (fun n=>nestOK n k.vars.es k.values.es.length)=false:=by rw [← hall,hI];simp [hy]
    rw [hof,hI'];rfl
   ·simp only [ew,go_sem,seval]
    refine And.intro (by kernel_rfl) ⟨rfl,g1,?_⟩
    rw [hI];simp [hy]
end
end Go.Tev
end
section
namespace Go.Tev
section
variable {pg:Pg}
theorem c568 (hf:pg.fs 568=some cf568) (nl cl:Bool) (ls:List Lin) (hb:ls.length≤big):RetP pg 568 [.sl nl (ls.map Lin.av) cl] IsB:=by
 refine RetP.ofX hf ?_
 unfold cf568
 simp only [go_sem,seval]
 refine XX_list ls (fun d r env hp=>env=cf568E1 (.sl nl (ls.map Lin.av) cl) (.int .i64 d.length)) ?_ ?_ ?_
 ·rfl
 ·rintro env hp rfl
  simp only [cf568L1,cf568E1,ltSelf,go_sem,seval]
 ·rintro d x r env hp hes rfl
  obtain ⟨hget,e1,e2,ew⟩:=loopF hes hb
  have hlb:=x.ts.ok
  cases b1:decide (6 < (x.ts.es.length:Int))
  case true=>
   simp only [cf568L1,cf568E1,e1,e2,hget,b1,go_sem,seval]
  cases b2:decide (x.c < -100)
  case true=>
   simp only [cf568L1,cf568E1,e1,e2,hget,b1,b2,go_sem,seval]
  cases b3:decide (100 < x.c)
  case true=>
   simp only [cf568L1,cf568E1,e1,e2,hget,b1,b2,b3,go_sem,seval]
  simp only [cf568L1,cf568E1,e1,e2,hget,b1,b2,b3,go_sem,seval]
  refine XX_list x.ts.es (fun d2 r2 env hp=>env=cf568E0 (.sl nl (ls.map Lin.av) cl) (.int .i64 d.length) (.int .i64 d2.length)) ?_ ?_ ?_
  ·rfl
  ·rintro env hp rfl
   simp only [cf568L0,cf568E0,ltSelf,hget,e1,e2,ew,go_sem,seval]
   rfl
  ·rintro d2 y r2 env hp he2 rfl
   obtain ⟨hget2,f1,f2,fw⟩:=loopF he2 hlb
   cases b4:decide (y.c < -100)
   case true=>
    simp only [cf568L0,cf568E0,e1,e2,hget,hget2,f1,f2,b4,go_sem,seval]
   cases b5:decide (100 < y.c)
   case true=>
    simp only [cf568L0,cf568E0,e1,e2,hget,hget2,f1,f2,b4,b5,go_sem,seval]
   cases b6:decide (35 < (y.v.bs.length:Int))
   case true=>
    simp only [cf568L0,cf568E0,e1,e2,hget,hget2,f1,f2,b4,b5,b6,go_sem,seval]
   simp only [cf568L0,cf568E0,e1,e2,hget,hget2,f1,f2,b4,b5,b6,fw,go_sem,seval]
   rfl
theorem c569 (hf:pg.fs 569=some cf569) (h568:∀ (nl cl:Bool) (ls:List Lin),ls.length≤big→RetP pg 568 [.sl nl (ls.map Lin.av) cl] IsB) (h25:∀ p:Pull,p.ok→Ret pg 25 [p.av] (.bool (few25 p))) :
  ∀ p:Pull,p.ok→RetP pg 569 [p.av] IsB:=by
 refine Pull.ind' fun p ih hp=>?_
 obtain ⟨hb,hk⟩:=(Pull.ok_iff p).1 hp
 obtain ⟨r1,a1,b1,rfl⟩:=h568 p.at_.nl p.at_.cl p.at_.es p.at_.ok
 have a2:=h25 p hp
 rw [Pull.avc] at a2
 refine RetP.ofX hf ?_
 unfold cf569
 simp only [go_sem,seval]
 refine XX_list p.kids (fun d r env hp=>env=cf569E0 (.pt 1 0 0) (.int .i64 d.length)∧hp.get 1=some (0,.blk (pcell p p.kids) 9 true true false)) ?_ ?_ ?_
 ·exact ⟨rfl,rfl⟩
 ·rintro env hp ⟨rfl,h1⟩
  simp only [pcell] at h1
  simp only [cf569L0,cf569E0,ltSelf,h1,go_sem,seval]
  refine XO_tree a1 (by simp only [go_sem,seval]) rfl ?_
  cases b1
  ·simp only [go_sem,seval]
  ·simp only [h1,go_sem,seval]
   refine XO_tree a2 (by simp only [go_sem,seval]) rfl ?_
   simp only [go_sem,seval]
 ·rintro d x r env hp hes ⟨rfl,h1⟩
  have h0:=h1
  simp only [pcell] at h1
  obtain ⟨r3,a3,b3,rfl⟩:=ih x (by rw [hes];simp) (hk x (by rw [hes];simp))
  obtain ⟨hget,e1,e2,ew⟩:=loopF hes hb
  simp only [cf569L0,cf569E0,e1,e2,hget,h1,go_sem,seval]
  refine XO_tree (a3) (by simp only [go_sem,seval]) rfl ?_
  cases b3
  ·simp only [go_sem,seval]
  ·simp only [ew,go_sem,seval]
   exact ⟨rfl,h0⟩
end
end Go.Tev
end
section
namespace Go.Tev
section
variable {pg:Pg}
end
end Go.Tev
end
