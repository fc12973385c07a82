import Derived.Test.YtmcpinidcecmoaaGreatDoorND1
import Derived.Test.YtmcpinidcecmoaaGreatDoorEA
import Derived.Test.YtmcpinidcecmoaaGreatDoorRO
set_option linter.all false
section
namespace Go.Tev
def sizesRP (k:Kernels) (ds:List Val) (r:AV):Prop:=
 if codeX k ds=0 then ∃ nl cl,r = .tup [.sl nl ((sizesL (sizeF ds) (spansK k) k.values.es).map intA) cl,.int .i64 0] else r = .tup [.sl true [] true,.int .i64 (codeX k ds)]
theorem rp_bad {k:Kernels} {ds:List Val} (h:¬ (fuseV k).2=0):sizesRP k ds (.tup [.sl true [] true,.int .i64 22]):=by
 have:codeX k ds=22:=by rw [codeX,if_neg h]
 rw [sizesRP,this];rfl
theorem rp_one {k:Kernels} {ds:List Val} (h:(fuseV k).2=0) (h1:eqL dimOne ds k.vars.es=false):sizesRP k ds (.tup [.sl true [] true,.int .i64 1]):=by
 have:codeX k ds=1:=by rw [codeX,if_pos h,h1];rfl
 rw [sizesRP,this];rfl
theorem rp_two {k:Kernels} {ds:List Val} (h:(fuseV k).2=0) (h1:eqL dimOne ds k.vars.es=true) (h2:k.wher.es.all (fun l=>decide (0≤(evalL ds l).1))=false):sizesRP k ds (.tup [.sl true [] true,.int .i64 2]):=by
 have:codeX k ds=2:=by rw [codeX,if_pos h,h1,h2];rfl
 rw [sizesRP,this];rfl
theorem rp_three {k:Kernels} {ds:List Val} (h:(fuseV k).2=0) (h1:eqL dimOne ds k.vars.es=true) (h2:k.wher.es.all (fun l=>decide (0≤(evalL ds l).1))=true) (h3:sizesOK (fun t=>(sizeP ds t).2) (spansK k) k.values.es=false):sizesRP k ds (.tup [.sl true [] true,.int .i64 3]):=by
 have:codeX k ds=3:=by rw [codeX,if_pos h,h1,h2,h3];rfl
 rw [sizesRP,this];rfl
section
variable {pg:Pg}
set_option maxHeartbeats 1000000 in
theorem c17 (hf:pg.fs 17=some cf17) (k:Kernels) (h10:RetP pg 10 [k.av] (spansRR k)) (nl cl:Bool) (ds:List Val) (hb:ds.length≤big)
  (h34:∀ l:Lin,Ret pg 34 [l.av,.sl nl (ds.map Val.av) cl] (.tup [.int .i64 (evalL ds l).1,.int .i64 (evalL ds l).2]))
  (h35:∀ t:Typ,RetP pg 35 [t.av,.sl nl (ds.map Val.av) cl] (dimsRes ds t)) :
  RetP pg 17 [k.av,.sl nl (ds.map Val.av) cl] (sizesRP k ds):=by
 obtain ⟨r9,hr9,hs9⟩:=h10
 simp only [Kernels.av,Kernels.cells,Sl.av] at hr9
 refine RetP.ofX hf ?_
 unfold cf17
 simp only [Kernels.av,Kernels.cells,go_sem,seval]
 rcases fuse_code (k:=k) with hc | hc
 ·have ok:=fuseOK_of hc
  have hso:=ok.out
  simp only [outsideOK,Bool.and_eq_true,decide_eq_true_eq] at hso
  obtain ⟨_,⟨⟨⟨⟨⟨⟨_,_⟩,hi0⟩,_⟩,hiV⟩,_⟩,_⟩,_⟩:=hso
  obtain ⟨hov,hot⟩:=fuse_over ok
  have hsl:=spansK_len (k:=k) (by omega)
  have hVb:=k.values.ok
  have htr:treeL ((spansK k).map spAV)=true:=treeL_map (f:=spAV) (fun s=>by simp [spAV,go_sem]) _
  rw [spansRR,if_pos hc] at hs9
  obtain ⟨nl9,cl9,rfl⟩:=hs9
  refine XO_tree hr9 (by simp only [go_sem,seval]) (by first | rfl | (simp [AV.tree,htr])) ?_
  cases hl:decide ((ds.length:Int)=k.vars.es.length)
  case false=>
   simp only [hl,go_sem,seval]
   exact rp_one hc (eqL_ne hl)
  case true=>
   have hlv:ds.length=k.vars.es.length:=by
    have:=of_decide_eq_true hl
    omega
   simp only [hl,go_sem,seval]
   refine XX_list ds (fun d r env hp=>env=cf17E0 (.sl nl (ds.map Val.av) cl) (.pt 1 0 0) (.sl nl9 ((spansK k).map spAV) cl9) (.int .i64 d.length) ∧
    hp.get 1=some (0,.blk (kcellsR k) 6 true true false)∧eqL dimOne ds k.vars.es=eqL dimOne r (k.vars.es.drop d.length)) ?_ ?_ ?_
   ·refine ⟨rfl,?_,rfl⟩
    simp only [go_sem,seval]
    rfl
   ·rintro env hp ⟨rfl,g1,hD⟩
    have hD':eqL dimOne ds k.vars.es=true:=by rw [hD,loopG_end hlv]
    have hev:=evalL_ok hD' hov
    simp only [cf17L0,cf17E0,ltSelf,go_sem,seval]
    refine XX_list k.wher.es (fun d r env hp=>env=cf17E1 (.sl nl (ds.map Val.av) cl) (.pt 1 0 0) (.sl nl9 ((spansK k).map spAV) cl9) (.int .i64 d.length) ∧
     hp.get 1=some (0,.blk (kcellsR k) 6 true true false)∧k.wher.es.all (fun l=>decide (0≤(evalL ds l).1))=r.all (fun l=>decide (0≤(evalL ds l).1))) ?_ ?_ ?_
    ·exact ⟨rfl,g1,rfl⟩
    ·clear g1 hp
     rintro env hp ⟨rfl,g1,hW⟩
     have hW':k.wher.es.all (fun l=>decide (0≤(evalL ds l).1))=true:=by rw [hW];rfl
     have g1':=g1
     simp only [kcellsR] at g1
     simp only [cf17L1,cf17E1,g1,ltSelf,go_sem,seval]
     have hlb:(spansK k).length≤big:=by rw [hsl];exact hVb
     refine XX_list (spansK k) (fun d r env hp=>∃ w,env=cf17E3 (.sl nl (ds.map Val.av) cl) (.pt 1 0 0) (.sl nl9 ((spansK k).map spAV) cl9) w (.int .i64 d.length) ∧
      hp.get 1=some (0,.blk (kcellsR k) 6 true true false)∧Own hp 17 1 false w ((sizesL (sizeF ds) d k.values.es).map intA) ∧
      sizesOK (fun t=>(sizeP ds t).2) (spansK k) k.values.es=sizesOK (fun t=>(sizeP ds t).2) r (k.values.es.drop d.length)) ?_ ?_ ?_
     ·exact ⟨_,rfl,g1',Own.nil _ _ _ _ _ _ rfl,rfl⟩
     ·clear g1 g1' hp
      rintro env hp ⟨w,rfl,g1,ho,hS⟩
      have hS':sizesOK (fun t=>(sizeP ds t).2) (spansK k) k.values.es=true:=by rw [hS];rfl
      have hfin:∀ r,(∃ nl cl,r = .tup [.sl nl ((sizesL (sizeF ds) (spansK k) k.values.es).map intA) cl,.int .i64 0])→sizesRP k ds r:=by
       intro r hr
       rw [sizesRP,if_pos (codeX_ok hc hD' hW' hS')]
       exact hr
      simp only [cf17L3,cf17E3,ltSelf,go_sem,seval]
      obtain ⟨nl3,cl3,keys,hsn,_⟩:=ho.snap (El.ints _) 61
      rcases ho with ⟨he,nl',cl',rfl,_⟩ | ⟨e,cs,rfl,hg,hu⟩
      ·simp only [go_sem,seval]
       exact hfin _ ⟨nl',cl',by rw [he]⟩
      ·simp only [List.length_map] at hsn
       simp only [Tev.conv,depth,snapX,mapS_nil,mapS_cons,↓hsn,go_sem,List.length_map]
       exact hfin _ ⟨_,_,rfl⟩
     ·clear g1 g1' hp
      rintro d x r env hp hes ⟨w,rfl,g1,ho,hS⟩
      obtain ⟨hget,x1,x2,xw⟩:=loopF hes hlb
      have hlt:d.length < k.values.es.length:=by rw [← hsl,hes];simp
      obtain ⟨t,ht⟩:∃ t,k.values.es[d.length]?=some t:=⟨_,List.getElem?_eq_getElem hlt⟩
      have hvl:((d.length:Int) < (k.values.es.length:Int))=True:=eq_true (by omega)
      have hSx:sizesOK (fun t=>(sizeP ds t).2) (spansK k) k.values.es=((decide (x.1 = -2)||(sizeP ds t).2)&&sizesOK (fun t=>(sizeP ds t).2) r (k.values.es.drop (d++[x]).length)):=by
       rw [hS,List.drop_eq_getElem_cons hlt,sizesOK]
       rw [List.getElem?_eq_getElem hlt] at ht
       cases ht
       simp
      have hsno:=sizesL_snoc (sizeF ds) x d k.values.es t ht
      have hslen:=sizesL_len (sizeF ds) d k.values.es (by omega)
      have hfx:=first_spans ok (show x∈spansK k by rw [hes];simp)
      have hx0:spAV x = .agg [.int .i64 x.1,.int .i64 x.2]:=rfl
      have h3:decide (-1≤x.1) = !decide (x.1 = -2):=by
       rw [← decide_not,decide_eq_decide]
       rcases hfx with h | h<;>omega
      have g1':=g1
      simp only [kcellsR] at g1
      simp only [big] at hVb
      cases b1:decide (x.1 = -2)
      case true=>
       rw [b1] at h3
       simp only [cf17L3,cf17E3,hget,x1,x2,hx0,h3,go_sem,seval]
       refine XO_own (kb:=0) (s:=17) ho (El.ints _) (xs:=[.int .i64 0]) (by intro z hz;simp at hz;subst hz;exact El.int _) (by simp only [List.length_map,List.length_singleton];omega) (by decide) ?_
       intro v' rd pa ho2 hk2 _
       simp only [xw,go_sem,seval]
       refine ⟨v',rfl,?_,?_,by rw [hSx,b1];rfl⟩
       ·rw [hk2 1 (by omega)];exact g1'
       ·rw [hsno,if_pos (of_decide_eq_true b1)];simpa [intA] using ho2
      case false=>
      rw [b1] at h3
      obtain ⟨r35,hr35,hs35⟩:=h35 t
      obtain ⟨q1,q2⟩:=size_ref hD' (hot t (List.mem_of_getElem? ht))
      rw [dimsRes,q1] at hs35
      cases b2:(sizeP ds t).2
      case false=>
       rw [b2] at hs35
       simp only [Bool.false_eq_true,if_false] at hs35
       subst hs35
       simp only [cf17L3,cf17E3,hget,x1,x2,hx0,h3,g1,ht,hvl,go_sem,seval]
       refine XO_tree hr35 (by simp only [go_sem,seval]) rfl ?_
       simp only [go_sem,seval]
       exact rp_three hc hD' hW' (by rw [hSx,b1,b2];rfl)
      case true=>
      rw [b2] at hs35
      simp only [if_true] at hs35
      obtain ⟨nl5,cl5,rfl⟩:=hs35
      obtain ⟨q3,_,_⟩:=q2 b2
      simp only [cf17L3,cf17E3,hget,x1,x2,hx0,h3,g1,ht,hvl,go_sem,seval]
      refine XO_tree hr35 (by simp only [go_sem,seval]) (by first | rfl | (simp [AV.tree,intA_treeL])) ?_
      simp only [go_sem,seval]
      have hLb:(dimL ds t).length≤big:=by
       have:=t.shape.dims.ok
       simpa [dimL] using this
      have hq3:(dimL ds t).foldl (fun n a=>wr .i64 (n*a)) 1=sizeF ds t:=q3
      generalize dimL ds t=L at hLb hq3
      refine XX_list L (fun d3 r3 env hp3=>∃ n:Int,env=cf17E2 (.sl nl (ds.map Val.av) cl) (.pt 1 0 0) (.sl nl9 ((spansK k).map spAV) cl9) w (.int .i64 d.length) (.int .i64 n) (.sl nl5 (L.map intA) cl5) (.int .i64 d3.length)∧hp3=hp∧L.foldl (fun n a=>wr .i64 (n*a)) 1=r3.foldl (fun n a=>wr .i64 (n*a)) n) ?_ ?_ ?_
      ·exact ⟨1,rfl,rfl,rfl⟩
      ·rintro env hp3 ⟨n,rfl,rfl,hJ⟩
       have hn:n=sizeF ds t:=by rw [← hq3,hJ];rfl
       simp only [cf17L2,cf17E2,ltSelf,go_sem,seval]
       refine XO_own (kb:=0) (s:=17) ho (El.ints _) (xs:=[.int .i64 n]) (by intro z hz;simp at hz;subst hz;exact El.int _) (by simp only [List.length_map,List.length_singleton];omega) (by decide) ?_
       intro v' rd pa ho2 hk2 _
       simp only [xw,go_sem,seval]
       refine ⟨v',rfl,?_,?_,by rw [hSx,b1,b2];rfl⟩
       ·rw [hk2 1 (by omega)];exact g1'
       ·rw [hsno,if_neg (of_decide_eq_false b1),← hn];simpa [intA] using ho2
      ·rintro d3 a r3 env hp3 hes3 ⟨n,rfl,rfl,hJ⟩
       obtain ⟨hget3,f1,f2,fw⟩:=loopF hes3 hLb
       simp only [cf17L2,cf17E2,hget3,f1,f2,fw,go_sem,seval]
       exact ⟨_,rfl,hJ⟩
    ·clear g1 hp
     rintro d x r env hp hes ⟨rfl,g1,hW⟩
     have hwb:=k.wher.ok
     obtain ⟨hget,x1,x2,xw⟩:=loopF hes hwb
     have hr34:=h34 x
     rw [hev x (by rw [hes];simp)] at hr34
     have g1':=g1
     simp only [kcellsR] at g1
     simp only [cf17L1,cf17E1,g1,hget,x1,x2,go_sem,seval]
     refine XO_tree hr34 (by simp only [go_sem,seval]) rfl ?_
     simp only [go_sem,seval]
     cases b1:decide ((evalL ds x).1 < 0)
     case true=>
      have b1':decide (0≤(evalL ds x).1)=false:=by simp at b1 ⊢;omega
      simp only [b1,go_sem,seval]
      exact rp_two hc hD' (by rw [hW,List.all_cons,b1'];rfl)
     have b1':decide (0≤(evalL ds x).1)=true:=by simp at b1 ⊢;omega
     simp only [b1,xw,go_sem,seval]
     refine ⟨rfl,?_,by rw [hW,List.all_cons,b1'];rfl⟩
     first | exact g1' | rfl
   ·rintro d x r env hp hes ⟨rfl,g1,hD⟩
    obtain ⟨hget,x1,x2,xw⟩:=loopF hes hb
    obtain ⟨y,hy,_,hvl,hq⟩:=loopG (q:=dimOne) hes hlv
    rw [hq] at hD
    have g1':=g1
    simp only [kcellsR] at g1
    simp only [cf17L0,cf17E0,g1,hy,hvl,hget,x1,x2,go_sem,seval]
    cases b1:decide (x.v.bs=y.bs)
    case false=>
     simp only [b1,go_sem,seval]
     exact ⟨by kernel_rfl,rp_one hc (by rw [hD,dimOne,b1];rfl)⟩
    cases b2:decide (x.n < 0)
    case true=>
     simp only [b1,b2,hget,x1,x2,go_sem,seval]
     exact ⟨by kernel_rfl,rp_one hc (by rw [hD,dimOne,b1,b2];rfl)⟩
    cases b3:decide (4096 < x.n)
    case true=>
     simp only [b1,b2,b3,hget,x1,x2,go_sem,seval]
     exact ⟨by kernel_rfl,rp_one hc (by rw [hD,dimOne,b1,b2,b3];rfl)⟩
    simp only [b1,b2,b3,hget,x1,x2,xw,go_sem,seval]
    exact ⟨by kernel_rfl,rfl,g1',by rw [hD,dimOne,b1,b2,b3];rfl⟩
 ·rw [spansRR,if_neg (by rw [hc];decide)] at hs9
  subst hs9
  refine XO_tree hr9 (by simp only [go_sem,seval]) rfl ?_
  simp only [go_sem,seval]
  exact rp_bad (by rw [hc];decide)
def maxI (a b:Int):Int:=if a < b then b else a
theorem c36 (hf:pg.fs 36=some cf36) (nl cl:Bool) (a:Int) (L:List Int) (hb:(a :: L).length≤big):Ret pg 36 [.sl nl ((a :: L).map intA) cl] (.int .i64 (L.foldl maxI a)):=by
 refine Ret.ofX hf ?_
 unfold cf36
 have h1:decide ((((a :: L).length:Nat):Int) < 1)=false:=by simp;omega
 have hl0:((a :: L).map intA).length=(a :: L).length:=by simp
 generalize hT:a :: L=T at h1 hl0 hb
 have hT0:T[0]?=some a:=by rw [← hT];rfl
 have hTl:T.length=L.length+1:=by rw [← hT];rfl
 have h2:((0:Int) < (T.length:Int))=True:=eq_true (by omega)
 simp only [h1,hT0,h2,go_sem,seval]
 refine XX_list L (fun d r env hp=>∃ m:Int,env=cf36E0 (.sl nl (T.map intA) cl) (.int .i64 m) (.int .i64 ((d.length+1:Nat):Int))∧L.foldl maxI a=r.foldl maxI m) ?_ ?_ ?_
 ·exact ⟨a,rfl,rfl⟩
 ·rintro env hp ⟨m,rfl,hI⟩
  have e1:decide (((L.length+1:Nat):Int) < (T.length:Int))=false:=by simp;omega
  simp only [cf36L0,cf36E0,e1,go_sem,seval]
  rw [hI];rfl
 ·rintro d x r env hp hes ⟨m,rfl,hI⟩
  have hTx:T[d.length+1]?=some x:=by rw [← hT,hes];simp
  have hlt:d.length < L.length:=by rw [hes];simp
  have e1:decide (((d.length+1:Nat):Int) < (T.length:Int))=true:=by simp;omega
  have e2:(((d.length+1:Nat):Int) < (T.length:Int))=True:=eq_true (by omega)
  have ew:wr .i64 (((d.length+1:Nat):Int)+1)=(((d++[x]).length+1:Nat):Int):=by
   simp only [big] at hb
   rw [wr_small (by omega) (by omega)];simp
  simp only [cf36L0,cf36E0,e1,e2,hTx,mx2,ew,go_sem,seval]
  exact ⟨_,rfl,by rw [hI];rfl⟩
end
end Go.Tev
end
section
namespace Go.Tev
theorem live_sum (S:List Int) (j:Nat) (a0:Int):∀ (n:Nat) (zs:List (Sp × Int)),zs.length=n→(∀ (i:Nat) (p:Sp × Int),zs[i]?=some p→S[i]?=some p.2) →
  (liveD ((j:Int) - 1) (zs.map (·.1))).foldl (fun a v=>wr .i64 (a+(S[v.toNat]?).getD 0)) a0=sumAt j zs a0
 | 0,zs,hn,_=>by
  have:zs=[]:=List.eq_nil_of_length_eq_zero hn
  subst this;rfl
 | n+1,zs,hn,h=>by
  rcases List.eq_nil_or_concat zs with hz | ⟨d,p,hz⟩
  ·subst hz;simp at hn
  ·have hz:zs=d++[p]:=by simpa using hz
   subst hz
   have hd:d.length=n:=by simpa using hn
   have ih:=live_sum S j a0 n d hd (fun i q hi=>h i q (by rw [List.getElem?_append_left (List.getElem?_eq_some_iff.1 hi).1];exact hi))
   have hp:=h d.length p (by simp)
   rw [List.map_append,List.map_cons,List.map_nil,liveD_snoc,sumAt_snoc,List.foldl_append,ih]
   cases isLive ((j:Int) - 1) p.1
   ·simp
   ·simp [hp]
theorem sum_pos (j:Nat):∀ (zs:List (Sp × Int)) (a:Int),0≤a→(∀ p∈zs,0≤p.2∧p.2≤4096)→a+4096*zs.length≤1000000000000000→0≤sumAt j zs a
 | [],a,h,_,_=>h
 | p :: r,a,h,hp,hb=>by
  obtain ⟨p1,p2⟩:=hp p (by simp)
  simp only [List.length_cons] at hb
  simp only [sumAt]
  have hr:∀ q∈r,0≤q.2∧q.2≤4096:=fun q hq=>hp q (List.mem_cons_of_mem _ hq)
  split
  ·rw [wr_small (by omega) (by omega)]
   exact sum_pos j r _ (by omega) hr (by omega)
  ·exact sum_pos j r _ h hr (by omega)
theorem sizesL_in {ds:List Val} {vars:List Str} (hD:eqL dimOne ds vars=true):∀ (sp:List Sp) (vs:List Typ),(∀ t∈vs,overOK t.shape.dims.es vars=true)→sizesOK (fun t=>(sizeP ds t).2) sp vs=true→∀ z∈sizesL (sizeF ds) sp vs,0≤z∧z≤4096
 | [],_,_,_,z,hz=>by simp [sizesL] at hz
 | _ :: _,[],_,_,z,hz=>by simp [sizesL] at hz
 | s :: r,t :: q,ht,hS,z,hz=>by
  simp only [sizesOK,Bool.and_eq_true,Bool.or_eq_true,decide_eq_true_eq] at hS
  simp only [sizesL,List.mem_cons] at hz
  rcases hz with rfl | hz
  ·by_cases h:s.1 = -2
   ·rw [if_pos h];decide
   ·rw [if_neg h]
    rcases hS.1 with h2 | h2
    ·exact absurd h2 h
    ·exact ((size_ref hD (ht t (by simp))).2 h2).2
  ·exact sizesL_in hD r q (fun u hu=>ht u (List.mem_cons_of_mem _ hu)) hS.2 z hz
def zsOf (k:Kernels) (ds:List Val):List (Sp × Int):=(spansK k).zip (sizesL (sizeF ds) (spansK k) k.values.es)
def needL (k:Kernels) (ds:List Val):List Int:=(List.range (k.list.es.length+2)).map fun j=>sumAt j (zsOf k ds) 0
theorem needZ_eq (k:Kernels) (ds:List Val):needZ (zsOf k ds) (List.replicate (k.list.es.length+2) 0)=needL k ds:=by
 apply List.ext_getElem?
 intro j
 by_cases hj:j < k.list.es.length+2
 ·rw [needZ_get j (zsOf k ds) _ 0 (by simp [List.getElem?_replicate,hj])]
  simp [needL,List.getElem?_range hj]
 ·rw [List.getElem?_eq_none (by rw [needZ_len];simp;omega),List.getElem?_eq_none (by simp [needL];omega)]
theorem codeX_parts {k:Kernels} {ds:List Val} (h:codeX k ds=0):(fuseV k).2=0∧eqL dimOne ds k.vars.es=true∧sizesOK (fun t=>(sizeP ds t).2) (spansK k) k.values.es=true:=by
 simp only [codeX] at h
 split at h
 ·rename_i h1
  split at h
  ·rename_i h2
   split at h
   ·split at h
    ·rename_i h4
     exact ⟨h1,h2,h4⟩
    ·simp at h
   ·simp at h
  ·simp at h
 ·simp at h
theorem zs_len {k:Kernels} {ds:List Val} (ok:FuseOK k):(zsOf k ds).length=k.values.es.length∧(spansK k).length=k.values.es.length∧(sizesL (sizeF ds) (spansK k) k.values.es).length=k.values.es.length:=by
 have hso:=ok.out
 simp only [outsideOK,Bool.and_eq_true,decide_eq_true_eq] at hso
 obtain ⟨_,⟨⟨⟨⟨⟨⟨_,_⟩,hi0⟩,_⟩,hiV⟩,_⟩,_⟩,_⟩:=hso
 have hsl:=spansK_len (k:=k) (by omega)
 have hzl:=sizesL_len (sizeF ds) (spansK k) k.values.es (by omega)
 exact ⟨by simp [zsOf,List.length_zip,hsl,hzl],hsl,by omega⟩
theorem zs_parts {k:Kernels} {ds:List Val} (ok:FuseOK k):(zsOf k ds).map (·.1)=spansK k∧∀ (i:Nat) (p:Sp × Int),(zsOf k ds)[i]?=some p→(sizesL (sizeF ds) (spansK k) k.values.es)[i]?=some p.2:=by
 obtain ⟨h1,h2,h3⟩:=zs_len (ds:=ds) ok
 refine ⟨by rw [zsOf,List.map_fst_zip (by omega)],fun i p hi=>?_⟩
 rw [zsOf,List.getElem?_zip_eq_some] at hi
 exact hi.2
theorem need_pos {k:Kernels} {ds:List Val} (h:codeX k ds=0):∀ j,0≤sumAt j (zsOf k ds) 0:=by
 obtain ⟨hc,hD,hS⟩:=codeX_parts h
 have ok:=fuseOK_of hc
 obtain ⟨h1,_,_⟩:=zs_len (ds:=ds) ok
 have hVb:=k.values.ok
 simp only [big] at hVb
 intro j
 refine sum_pos j _ 0 (Int.le_refl _) (fun p hp=>?_) (by omega)
 have:p.2∈sizesL (sizeF ds) (spansK k) k.values.es:=by
  rw [zsOf] at hp
  exact (List.of_mem_zip hp).2
 exact sizesL_in hD _ _ (fuse_over ok).2 hS _ this
theorem needL_len {k:Kernels} {ds:List Val} (h:codeX k ds=0):(needL k ds).length≤big:=by
 have hso:=(fuseOK_of (codeX_parts h).1).out
 simp only [outsideOK,Bool.and_eq_true,decide_eq_true_eq] at hso
 obtain ⟨_,⟨⟨⟨⟨⟨⟨_,_⟩,_⟩,_⟩,_⟩,_⟩,hl⟩,_⟩:=hso
 simp only [needL,List.length_map,List.length_range,big]
 omega
def needsRP (k:Kernels) (ds:List Val) (r:AV):Prop:=
 if codeX k ds=0 then ∃ nl cl,r = .tup [.sl nl ((needL k ds).map intA) cl,.int .i64 0] else r = .tup [.sl true [] true,.int .i64 (codeX k ds)]
def leastI (k:Kernels) (ds:List Val):Int:=if codeX k ds=0 then (needL k ds).foldl maxI 0 else 0
section
variable {pg:Pg}
theorem c19 (hf:pg.fs 19=some cf19) (k:Kernels) (nl cl:Bool) (ds:List Val) (h17:RetP pg 17 [k.av,.sl nl (ds.map Val.av) cl] (sizesRP k ds)) (h12:∀ at_:Int,RetP pg 12 [k.av,.int .i64 at_] (liveR k at_)) :
  RetP pg 19 [k.av,.sl nl (ds.map Val.av) cl] (needsRP k ds):=by
 obtain ⟨r17,hr17,hs17⟩:=h17
 simp only [Kernels.av,Kernels.cells,Sl.av] at hr17 h12
 refine RetP.ofX hf ?_
 unfold cf19
 simp only [Kernels.av,Kernels.cells,go_sem,seval]
 by_cases hx:codeX k ds=0
 ·obtain ⟨hc,hD,hS⟩:=codeX_parts hx
  have ok:=fuseOK_of hc
  obtain ⟨l1,l2,l3⟩:=zs_len (ds:=ds) ok
  obtain ⟨p1,p2⟩:=zs_parts (ds:=ds) ok
  have hVb:=k.values.ok
  have hLb:=k.list.ok
  rw [sizesRP,if_pos hx] at hs17
  obtain ⟨nl6,cl6,rfl⟩:=hs17
  refine XO_tree hr17 (by simp only [go_sem,seval]) (by first | rfl | (simp [AV.tree,intA_treeL])) ?_
  simp only [go_sem,seval]
  generalize hSz:sizesL (sizeF ds) (spansK k) k.values.es=S at l3 p2 hr17
  simp only [big] at hLb hVb
  refine XX_list (List.range (k.list.es.length+2)) (fun d r env hp=>∃ w,env=cf19E1 (.pt 1 0 0) (.sl nl6 (S.map intA) cl6) w (.int .i64 ((d.length:Int) - 1))∧hp.get 1=some (0,.blk (kcellsR k) 6 true true false) ∧
   Own hp 13 1 false w ((d.map fun j=>sumAt j (zsOf k ds) 0).map intA)) ?_ ?_ ?_
  ·refine ⟨_,rfl,?_,Own.nil _ _ _ _ _ _ rfl⟩
   simp only [go_sem,seval]
   rfl
  ·rintro env hp ⟨w,rfl,g1,ho⟩
   have hr:(List.range (k.list.es.length+2)).length=k.list.es.length+2:=List.length_range
   rw [hr]
   have e1:decide ((((k.list.es.length+2:Nat):Int) - 1)≤(k.list.es.length:Int))=false:=decide_eq_false (by omega)
   simp only [kcellsR] at g1
   have ho':Own hp 13 1 false w ((needL k ds).map intA):=ho
   simp only [cf19L1,cf19E1,g1,e1,go_sem,seval]
   have hfin:∀ r,(∃ nl cl,r = .tup [.sl nl ((needL k ds).map intA) cl,.int .i64 0])→needsRP k ds r:=by
    intro r hr
    rw [needsRP,if_pos hx]
    exact hr
   obtain ⟨nl3,cl3,keys,hsn,_⟩:=ho'.snap (El.ints _) 61
   rcases ho' with ⟨he,nl',cl',rfl,_⟩ | ⟨e,cs,rfl,hg,hu⟩
   ·simp only [go_sem,seval]
    exact hfin _ ⟨nl',cl',by rw [he]⟩
   ·simp only [List.length_map] at hsn
    simp only [Tev.conv,depth,snapX,mapS_nil,mapS_cons,↓hsn,go_sem,List.length_map]
    exact hfin _ ⟨_,_,rfl⟩
  ·rintro d x r env hp hes ⟨w,rfl,g1,ho⟩
   obtain ⟨hxd,hlt⟩:=range_mid hes
   have e1:decide ((d.length:Int) - 1≤(k.list.es.length:Int))=true:=decide_eq_true (by omega)
   have ew:wr .i64 ((d.length:Int) - 1+1)=((d++[x]).length:Int) - 1:=by
    rw [wr_small (by omega) (by omega)];simp
   have g1':=g1
   simp only [kcellsR] at g1
   obtain ⟨r12,hr12,hs12⟩:=h12 ((d.length:Int) - 1)
   rw [liveR,if_pos hc,if_neg (by omega)] at hs12
   obtain ⟨nl3,cl3,rfl⟩:=hs12
   have hlive:=live_sum S d.length 0 (zsOf k ds).length (zsOf k ds) rfl p2
   rw [p1] at hlive
   have hin:∀ v∈liveD ((d.length:Int) - 1) (spansK k),0≤v∧v < S.length:=by
    intro v hv
    obtain ⟨s,h0,h1,_⟩:=mem_liveD.1 hv
    have:=(List.getElem?_eq_some_iff.1 h1).1
    omega
   have hll:=liveR_len (k:=k) (at_:=(d.length:Int) - 1)
   simp only [cf19L1,cf19E1,g1,e1,go_sem,seval]
   refine XO_tree hr12 (by simp only [go_sem,seval]) (by first | rfl | (simp [AV.tree,intA_treeL])) ?_
   simp only [go_sem,seval]
   have hLb2:(liveD ((d.length:Int) - 1) (spansK k)).length≤big:=by simp only [big];omega
   generalize liveD ((d.length:Int) - 1) (spansK k)=L at hlive hin hLb2
   refine XX_list L (fun d3 r3 env hp3=>∃ n:Int,env=cf19E0 (.pt 1 0 0) (.sl nl6 (S.map intA) cl6) w (.int .i64 ((d.length:Int) - 1)) (.sl nl3 (L.map intA) cl3) (.int .i64 n) (.int .i64 d3.length)∧hp3=hp ∧
    L.foldl (fun a v=>wr .i64 (a+(S[v.toNat]?).getD 0)) 0=r3.foldl (fun a v=>wr .i64 (a+(S[v.toNat]?).getD 0)) n) ?_ ?_ ?_
   ·exact ⟨0,rfl,rfl,rfl⟩
   ·rintro env hp3 ⟨n,rfl,rfl,hJ⟩
    have hn:n=sumAt d.length (zsOf k ds) 0:=by rw [← hlive,hJ];rfl
    have hdl:d.length≤k.list.es.length+2:=by omega
    simp only [cf19L0,cf19E0,ltSelf,go_sem,seval]
    refine XO_own (kb:=0) (s:=13) ho (El.ints _) (xs:=[.int .i64 n]) (by intro z hz;simp at hz;subst hz;exact El.int _) (by simp only [List.length_map,List.length_singleton];omega) (by decide) ?_
    intro v' rd pa ho2 hk2 _
    simp only [ew,go_sem,seval]
    refine ⟨v',rfl,?_,?_⟩
    ·rw [hk2 1 (by omega)];exact g1'
    ·rw [hxd,hn] at *;simpa [intA] using ho2
   ·rintro d3 v r3 env hp3 hes3 ⟨n,rfl,rfl,hJ⟩
    obtain ⟨hget3,f1,f2,fw⟩:=loopF hes3 hLb2
    obtain ⟨v1,v2⟩:=hin v (by rw [hes3];simp)
    obtain ⟨z,hz⟩:∃ z,S[v.toNat]?=some z:=⟨_,List.getElem?_eq_getElem (by omega)⟩
    have v1':(0≤v)=True:=eq_true v1
    have v2':(v < (S.length:Int))=True:=eq_true v2
    simp only [cf19L0,cf19E0,hget3,f1,f2,fw,hz,v1',v2',go_sem,seval]
    refine ⟨_,rfl,?_⟩
    rw [hJ];simp [hz]
 ·rw [sizesRP,if_neg hx] at hs17
  subst hs17
  refine XO_tree hr17 (by simp only [go_sem,seval]) rfl ?_
  have hne:decide (codeX k ds=0)=false:=by simpa using hx
  simp only [hne,go_sem,seval]
  rw [needsRP,if_neg hx]
theorem c21 (hf:pg.fs 21=some cf21) (k:Kernels) (nl cl:Bool) (ds:List Val) (h19:RetP pg 19 [k.av,.sl nl (ds.map Val.av) cl] (needsRP k ds)) :
  Ret pg 21 [k.av,.sl nl (ds.map Val.av) cl] (.tup [.int .i64 (leastI k ds),.int .i64 (codeX k ds)]):=by
 obtain ⟨r19,hr19,hs19⟩:=h19
 simp only [Kernels.av,Kernels.cells,Sl.av] at hr19
 refine Ret.ofX hf ?_
 unfold cf21
 simp only [Kernels.av,Kernels.cells,go_sem,seval]
 by_cases hx:codeX k ds=0
 ·rw [needsRP,if_pos hx] at hs19
  obtain ⟨nl6,cl6,rfl⟩:=hs19
  rw [leastI,if_pos hx,hx]
  have hLb:=needL_len hx
  generalize needL k ds=L at hLb hr19
  refine XO_tree hr19 (by simp only [go_sem,seval]) (by first | rfl | (simp [AV.tree,intA_treeL])) ?_
  simp only [go_sem,seval]
  refine XX_list L (fun d r env hp=>∃ m:Int,env=cf21E0 (.sl nl6 (L.map intA) cl6) (.int .i64 m) (.int .i64 d.length)∧L.foldl maxI 0=r.foldl maxI m) ?_ ?_ ?_
  ·exact ⟨0,rfl,rfl⟩
  ·rintro env hp ⟨m,rfl,hI⟩
   simp only [cf21L0,cf21E0,ltSelf,go_sem,seval]
   rw [hI];rfl
  ·rintro d x r env hp hes ⟨m,rfl,hI⟩
   obtain ⟨hget,f1,f2,fw⟩:=loopF hes hLb
   simp only [cf21L0,cf21E0,hget,f1,f2,fw,mx2,go_sem,seval]
   exact ⟨_,rfl,by rw [hI];rfl⟩
 ·rw [needsRP,if_neg hx] at hs19
  subst hs19
  refine XO_tree hr19 (by simp only [go_sem,seval]) rfl ?_
  have hne:decide (codeX k ds=0)=false:=by simpa using hx
  rw [leastI,if_neg hx]
  simp only [hne,go_sem,seval]
theorem c20 (hf:pg.fs 20=some cf20) (h36:pg.fs 36=some cf36) (k:Kernels) (nl cl:Bool) (ds:List Val) (h18:RetP pg 18 [k.av,.sl nl (ds.map Val.av) cl] (needsR (sizeF ds) k (codeX k ds))) :
  Ret pg 20 [k.av,.sl nl (ds.map Val.av) cl] (.tup [.int .i64 (leastI k ds),.int .i64 (codeX k ds)]):=by
 obtain ⟨r18,hr18,hs18⟩:=h18
 simp only [Kernels.av,Kernels.cells,Sl.av] at hr18
 refine Ret.ofX hf ?_
 unfold cf20
 simp only [Kernels.av,Kernels.cells,go_sem,seval]
 by_cases hx:codeX k ds=0
 ·rw [needsR,if_pos hx] at hs18
  have hE:=needZ_eq k ds
  rw [zsOf] at hE
  rw [hE] at hs18
  subst hs18
  rw [leastI,if_pos hx,hx]
  have hpos:=need_pos hx 0
  have hLb:=needL_len hx
  obtain ⟨a,L,hL,ha⟩:∃ a L,needL k ds=a :: L∧0≤a:=by
   refine ⟨sumAt 0 (zsOf k ds) 0,((List.range (k.list.es.length+1)).map Nat.succ).map (fun j=>sumAt j (zsOf k ds) 0),?_,hpos⟩
   rw [needL,List.range_succ_eq_map,List.map_cons]
  rw [hL] at hr18 hLb ⊢
  have hm:maxI 0 a=a:=by simp only [maxI];split<;>omega
  refine XO_tree hr18 (by simp only [go_sem,seval]) (by first | rfl | (simp [AV.tree,intA_treeL])) ?_
  simp only [go_sem,seval]
  have a36:=c36 h36 false true a L hLb
  refine XO_tree a36 (by simp only [go_sem,seval]) rfl ?_
  simp only [go_sem,seval]
  simp only [List.foldl_cons,hm]
 ·rw [needsR,if_neg hx] at hs18
  subst hs18
  refine XO_tree hr18 (by simp only [go_sem,seval]) rfl ?_
  have hne:decide (codeX k ds=0)=false:=by simpa using hx
  rw [leastI,if_neg hx]
  simp only [hne,go_sem,seval]
end
end Go.Tev
end
section
namespace Go.Tev
section
variable {pg:Pg}
theorem c4 (hf:pg.fs 4=some cf4) (h15:pg.fs 15=some cf15) (k:Kernels) (nl cl:Bool) (ds:List Val) (h7:Ret pg 7 [] (.bool true)) (h8:Ret pg 8 [k.av] (.bool (few8 k)))
  (h16:Ret pg 16 [k.av,.sl nl (ds.map Val.av) cl] (sizesAV k ds)) (h17:RetP pg 17 [k.av,.sl nl (ds.map Val.av) cl] (sizesRP k ds))
  (h18:RetP pg 18 [k.av,.sl nl (ds.map Val.av) cl] (needsR (sizeF ds) k (codeX k ds))) (h19:RetP pg 19 [k.av,.sl nl (ds.map Val.av) cl] (needsRP k ds))
  (h20:Ret pg 20 [k.av,.sl nl (ds.map Val.av) cl] (.tup [.int .i64 (leastI k ds),.int .i64 (codeX k ds)])) (h21:Ret pg 21 [k.av,.sl nl (ds.map Val.av) cl] (.tup [.int .i64 (leastI k ds),.int .i64 (codeX k ds)])) :
  Ret pg 4 [k.av,.sl nl (ds.map Val.av) cl] (.bool true):=by
 obtain ⟨r17,hr17,hs17⟩:=h17
 obtain ⟨r18,hr18,hs18⟩:=h18
 obtain ⟨r19,hr19,hs19⟩:=h19
 simp only [Kernels.av,Kernels.cells,Sl.av] at h8 h16 hr17 hr18 hr19 h20 h21
 have hVb:=k.values.ok
 have key:∀ (S L:List Int) (e m:Int) (nl1 cl1 nl2 cl2 nl3 cl3 nl4 cl4:Bool),S.length≤big→L.length≤big→sizesAV k ds = .tup [.sl nl1 (S.map intA) cl1,.int .i64 e]→r17 = .tup [.sl nl2 (S.map intA) cl2,.int .i64 e] →
   r18 = .tup [.sl nl3 (L.map intA) cl3,.int .i64 e]→r19 = .tup [.sl nl4 (L.map intA) cl4,.int .i64 e]→leastI k ds=m→codeX k ds=e→Ret pg 4 [k.av,.sl nl (ds.map Val.av) cl] (.bool true):=by
  intro S L e m nl1 cl1 nl2 cl2 nl3 cl3 nl4 cl4 hS hL q1 q2 q3 q4 q5 q6
  subst q2 q3 q4
  rw [q1] at h16
  rw [q5,q6] at h20 h21
  refine Ret.ofX hf ?_
  unfold cf4
  simp only [Kernels.av,Kernels.cells,go_sem,seval]
  refine XO_tree h7 (by simp only [go_sem,seval]) rfl ?_
  simp only [go_sem,seval]
  refine XO_tree h8 (by simp only [go_sem,seval]) rfl ?_
  cases hfew:few8 k
  case false=>
   simp only [go_sem,seval]
   refine XO_tree h7 (by simp only [go_sem,seval]) rfl ?_
   simp only [go_sem,seval]
  case true=>
  simp only [go_sem,seval]
  cases hl:decide (13 < (ds.length:Int))
  case true=>
   simp only [hl,go_sem,seval]
   refine XO_tree h7 (by simp only [go_sem,seval]) rfl ?_
   simp only [go_sem,seval]
  case false=>
  simp only [hl,go_sem,seval]
  refine XO_tree h16 (by simp only [go_sem,seval]) (by first | rfl | (simp [AV.tree,intA_treeL])) ?_
  simp only [go_sem,seval]
  refine XO_tree hr17 (by simp only [go_sem,seval]) (by first | rfl | (simp [AV.tree,intA_treeL])) ?_
  simp only [go_sem,seval]
  refine XO_tree hr18 (by simp only [go_sem,seval]) (by first | rfl | (simp [AV.tree,intA_treeL])) ?_
  simp only [go_sem,seval]
  refine XO_tree hr19 (by simp only [go_sem,seval]) (by first | rfl | (simp [AV.tree,intA_treeL])) ?_
  simp only [go_sem,seval]
  refine XO_tree h20 (by simp only [go_sem,seval]) rfl ?_
  simp only [go_sem,seval]
  refine XO_tree h21 (by simp only [go_sem,seval]) rfl ?_
  simp only [go_sem,seval]
  refine XO_tree (c15 h15 nl1 cl1 S hS nl2 cl2 S rfl) (by simp only [go_sem,seval]) rfl ?_
  have e0:decide (e=e)=true:=by simp
  have g0:decide (m=m)=true:=by simp
  simp only [e0,go_sem,seval]
  refine XO_tree (c15 h15 nl3 cl3 L hL nl4 cl4 L rfl) (by simp only [go_sem,seval]) rfl ?_
  simp only [e0,g0,go_sem,seval]
 by_cases hx:codeX k ds=0
 ·have ok:=fuseOK_of (codeX_parts hx).1
  obtain ⟨_,_,l3⟩:=zs_len (ds:=ds) ok
  have hLb:=needL_len hx
  have hE:=needZ_eq k ds
  rw [zsOf] at hE
  rw [sizesRP,if_pos hx] at hs17
  rw [needsR,if_pos hx,hE] at hs18
  rw [needsRP,if_pos hx] at hs19
  obtain ⟨nl2,cl2,q2⟩:=hs17
  obtain ⟨nl4,cl4,q4⟩:=hs19
  exact key _ _ 0 _ _ _ _ _ _ _ _ _ (by omega) hLb (by rw [sizesAV,if_pos hx]) q2 hs18 q4 rfl hx
 ·rw [sizesRP,if_neg hx] at hs17
  rw [needsR,if_neg hx] at hs18
  rw [needsRP,if_neg hx] at hs19
  exact key [] [] (codeX k ds) _ _ _ _ _ _ _ _ _ (by simp) (by simp) (by rw [sizesAV,if_neg hx];rfl) hs17 hs18 hs19 rfl rfl
structure Code4 (pg:Pg):Prop where
 f4:pg.fs 4=some cf4
 f16:pg.fs 16=some cf16
 f17:pg.fs 17=some cf17
 f18:pg.fs 18=some cf18
 f19:pg.fs 19=some cf19
 f20:pg.fs 20=some cf20
 f21:pg.fs 21=some cf21
 f32:pg.fs 32=some cf32
 f33:pg.fs 33=some cf33
 f34:pg.fs 34=some cf34
 f35:pg.fs 35=some cf35
 f36:pg.fs 36=some cf36
 f52:pg.fs 52=some cf52
 f53:pg.fs 53=some cf53
theorem all4 (C:Go.Tev.Code pg) (D:Code3 pg) (E:Code4 pg) (A:Ora pg) (h7:Ret pg 7 [] (.bool true)) (k:Kernels) (hk:KOK k) (nl cl:Bool) (ds:List Val) (hb:ds.length≤big) :
  Ret pg 4 [k.av,.sl nl (ds.map Val.av) cl] (.bool true):=by
 have B:=base_of A C.f57 C.f91 C.f126 C.f108 C.f94 C.f132 C.f133 C.f134 C.f171
 have h51:∀ l:Lin,Ret pg 51 [l.av] (.bool (linOK l)):=c51 C.f51 C.f89 B.name
 have h77:∀ s:Str,Ret pg 77 [.str s.bs] (.bool (nameU s.bs)):=fun s=>c77 D.f77 D.f114 D.f115 s.bs s.ok
 have h54:∀ l:Lin,Ret pg 54 [l.av] (.bool (linOK l)):=c54 D.f54 h77 D.f90
 have h9:=all9 C A k hk
 have h10:=all10 C D k hk
 have h32:=fun l nl cl ds hb=>c32x E.f32 h51 E.f52 E.f53 l nl cl ds hb
 have h33:=fun t=>c33x E.f33 h32 t nl cl ds hb
 have h34:=fun l nl cl ds hb=>c34x E.f34 h54 l nl cl ds hb
 have h35:=fun t=>c35 E.f35 h34 t nl cl ds hb
 have h16:=c16x E.f16 k h9 nl cl ds hb (fun l=>h32 l nl cl ds hb) h33
 have h17:=c17 E.f17 k h10 nl cl ds hb (fun l=>h34 l nl cl ds hb) h35
 have hse:sizesE (sizeF ds) k (codeX k ds) (sizesAV k ds):=by
  rw [sizesE,sizesAV]
  by_cases hx:codeX k ds=0
  ·rw [if_pos hx,if_pos hx]
   exact ⟨(codeX_parts hx).1,rfl⟩
  ·rw [if_neg hx,if_neg hx]
 have h18:=c18 E.f18 k h9 nl cl ds (sizeF ds) (codeX k ds) (sizesAV k ds) h16 hse
 have h19:=c19 E.f19 k nl cl ds h17 (fun at_=>c12 D.f12 k h10 at_)
 exact c4 E.f4 D.f15 k nl cl ds h7 (all8 C k hk) h16 h17 h18 h19 (c20 E.f20 E.f36 k nl cl ds h18) (c21 E.f21 k nl cl ds h19)
end
end Go.Tev
end
