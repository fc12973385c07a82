import Derived.Test.YtapbonkiigealaaGreatDoorOAH
import Derived.Test.YtapbonkiigealaaGreatDoorOAI
import Derived.Test.YtapbonkiigealaaGreatDoorOAU
import Derived.Test.YtapbonkiigealaaGreatDoorOAW
import Derived.Test.YtapbonkiigealaaGreatDoorOAS
import Derived.Test.YtapbonkiigealaaGreatDoorOAV
set_option linter.all false
section
namespace Go.Tev
theorem El.loop (x:Loop):El 5 true x.av:=⟨Loop.fits_av x,by simp only [go_sem,seval],by simp only [go_sem,seval]⟩
theorem El.lin (x:Lin):El 2 true x.av:=⟨Lin.fits_av x,by simp only [go_sem,seval],by simp only [go_sem,seval]⟩
theorem El.loops (l:List Loop):∀ x∈l.map Loop.av,El 5 true x:=by
 intro x hx;obtain ⟨y,_,rfl⟩:=List.mem_map.1 hx;exact El.loop y
theorem El.lins (l:List Lin):∀ x∈l.map Lin.av,El 2 true x:=by
 intro x hx;obtain ⟨y,_,rfl⟩:=List.mem_map.1 hx;exact El.lin y
def nilS (α : Type):Sl α:=⟨true,[],true,by simp [big]⟩
def oneS {α : Type} (x : α):Sl α:=⟨false,[x],true,by simp [big]⟩
def varL (s:Str) (less:Int):Lin:=⟨-less,oneS ⟨s,1⟩⟩
def loopP (i:Nat) (d:Lin):Loop:=⟨loopStr i,⟨0,nilS Coef⟩,oneS d,1⟩
def loopsP:Nat→List Lin→List Loop
 | _,[]=>[]
 | i,d :: r=>loopP i d :: loopsP (i+1) r
def atP:Nat→List Lin→List Lin
 | _,[]=>[]
 | i,_ :: r=>varL (loopStr i) 0 :: atP (i+1) r
theorem loopsP_len:∀ (l:List Lin) (i:Nat),(loopsP i l).length=l.length
 | [],_=>rfl
 | _ :: r,i=>by rw [loopsP,List.length_cons,loopsP_len r];rfl
theorem atP_len:∀ (l:List Lin) (i:Nat),(atP i l).length=l.length
 | [],_=>rfl
 | _ :: r,i=>by rw [atP,List.length_cons,atP_len r];rfl
theorem loopsP_app:∀ (l:List Lin) (x:Lin) (i:Nat),loopsP i (l++[x])=loopsP i l++[loopP (i+l.length) x]
 | [],x,i=>rfl
 | y :: r,x,i=>by
  rw [List.cons_append,loopsP,loopsP_app r,loopsP,List.cons_append,List.length_cons]
  rw [show i+1+r.length=i+(r.length+1) by omega]
theorem atP_app:∀ (l:List Lin) (x:Lin) (i:Nat),atP i (l++[x])=atP i l++[varL (loopStr (i+l.length)) 0]
 | [],x,i=>rfl
 | y :: r,x,i=>by
  rw [List.cons_append,atP,atP_app r,atP,List.cons_append,List.length_cons]
  rw [show i+1+r.length=i+(r.length+1) by omega]
theorem loopsP_snoc (l:List Lin) (x:Lin):loopsP 0 (l++[x])=loopsP 0 l++[loopP l.length x]:=by rw [loopsP_app,Nat.zero_add]
theorem atP_snoc (l:List Lin) (x:Lin):atP 0 (l++[x])=atP 0 l++[varL (loopStr l.length) 0]:=by rw [atP_app,Nat.zero_add]
structure IsWrites (n:Nest) (v:Int) (ds:List Lin) (p:Pull):Prop where
 loops:n.loops.es=loopsP 0 ds
 at_:n.at_.es=atP 0 ds
 value:n.value=v
 dyn:n.dyn=false
 index:n.index=zeroP
 check:n.check=0
 body:n.body=p
section
variable {pg:Pg}
theorem c597 (hf:pg.fs 597=some cf597) (s:Str) (less:Int) (hl:less=0∨less=1):Ret pg 597 [.str s.bs,.int .i64 less] (varL s less).av:=by
 have hw:wr .i64 (0 - less) = -less:=by rcases hl with rfl | rfl<;>rfl
 refine Ret.ofX hf ?_
 unfold cf597
 simp only [hw,go_sem,seval]
 first | rfl | simp [varL,oneS,Lin.avc,Coef.avc]
theorem c596_0 (h108:∀ i:Nat,i < 10→Ret pg 108 [.int .i64 i] (.str (loopN' i))) (h597:∀ (s:Str) (less:Int),less=0∨less=1→Ret pg 597 [.str s.bs,.int .i64 less] (varL s less).av) (hf:pg.fs 596=some cf596) (nl cl:Bool) (ds:List Lin) (hd:ds.length < 10) (h:Hp) :
  RetHP pg 596 [.sl nl (ds.map Lin.av) cl] 0 h (fun r h'=>∃ v1 v2,r = .tup [v1,v2]∧Own h' 9 5 true v1 ((loopsP 0 ds).map Loop.av)∧Own h' 17 2 true v2 ((atP 0 ds).map Lin.av)∧∀ q,q < 0→h'.get q=h.get q):=by
 have hb:ds.length≤big:=by simp only [big];omega
 refine RetHP.ofX hf ?_
 unfold cf596
 simp only [go_sem,seval]
 refine XX_list ds (fun d r env hp=>∃ v1 v2,env=cf596E0 v1 v2 (.sl nl (ds.map Lin.av) cl) (.int .i64 ds.length) (.int .i64 d.length)∧Own hp 9 5 true v1 ((loopsP 0 d).map Loop.av)∧Own hp 17 2 true v2 ((atP 0 d).map Lin.av)∧∀ q,q < 0→hp.get q=h.get q) ?_ ?_ ?_
 ·exact ⟨_,_,rfl,Own.nil _ _ _ _ _ _ rfl,Own.nil _ _ _ _ _ _ rfl,fun _ _=>rfl⟩
 ·rintro env hp ⟨v1,v2,rfl,o1,o2,hq⟩
  simp only [cf596L0,cf596E0,ltSelf,go_sem,seval]
  exact ⟨_,_,rfl,o1,o2,hq⟩
 ·rintro d x r env hp hes ⟨v1,v2,rfl,o1,o2,hq⟩
  obtain ⟨hget,e1,e2,ew⟩:=loopF hes hb
  have hi:d.length < 10:=by have:ds.length=d.length+(r.length+1):=by rw [hes];simp
                            omega
  clear hes
  simp only [cf596L0,cf596E0,e1,e2,hget,go_sem,seval]
  refine XO_tree (h108 d.length hi) (by simp only [go_sem,seval]) rfl ?_
  simp only [Lin.avc,go_sem,seval]
  generalize hH2:Hp.put (Hp.put hp 1 (hp.next 1) _) 1 (hp.next 1) _=H2
  have hot:∀ k,k ≠ 1→H2.get k=hp.get k:=fun k hk=>by rw [← hH2,get_put,if_neg (Ne.symm hk),get_put,if_neg (Ne.symm hk)]
  have o1':=o1.mono (hot 9 (by decide))
  have o2':=o2.mono (hot 17 (by decide))
  have hq':∀ q,q < 0→H2.get q=h.get q:=fun q hq2=>(hot q (by omega)).trans (hq q hq2)
  clear hot o1 o2 hq hH2
  refine XO_own (kb:=0) (s:=9) o1' (El.loops _) (xs:=[(loopP d.length x).av]) (by intro y hy;simp at hy;subst hy;exact El.loop _) (by simp [loopsP_len];omega) (by decide) ?_
  intro v1' rd pa p1 hk1 hpa
  have o2'':=o2'.mono (hk1 17 (by decide))
  have hq2:∀ q,q < 0→(Eff.app H2 (Eff.pat rd pa)).get q=h.get q:=fun q hqq=>(hk1 q (by omega)).trans (hq' q hqq)
  generalize Eff.app H2 (Eff.pat rd pa)=H3 at p1 o2'' hq2 ⊢
  clear o1' o2' hq' hk1
  simp only [go_sem,seval]
  refine XO_tree (h597 (loopStr d.length) 0 (.inl rfl)) (by simp only [go_sem,seval]) rfl ?_
  simp only [go_sem,seval]
  refine XO_own (kb:=0) (s:=17) o2'' (El.lins _) (xs:=[(varL (loopStr d.length) 0).av]) (by intro y hy;simp at hy;subst hy;exact El.lin _) (by simp [atP_len];omega) (by decide) ?_
  intro v2' rd2 pa2 p2 hk2 hpa2
  have p1':=p1.mono (hk2 9 (by decide))
  have hq3:∀ q,q < 0→(Eff.app H3 (Eff.pat rd2 pa2)).get q=h.get q:=fun q hqq=>(hk2 q (by omega)).trans (hq2 q hqq)
  simp only [ew,go_sem,seval]
  refine ⟨v1',v2',rfl,?_,?_,hq3⟩
  ·rw [loopsP_snoc];simpa using p1'
  ·rw [atP_snoc];simpa using p2
theorem c596_1 (h108:∀ i:Nat,i < 10→Ret pg 108 [.int .i64 i] (.str (loopN' i))) (h597:∀ (s:Str) (less:Int),less=0∨less=1→Ret pg 597 [.str s.bs,.int .i64 less] (varL s less).av) (hf:pg.fs 596=some cf596) (nl cl:Bool) (ds:List Lin) (hd:ds.length < 10) (h:Hp) :
  RetHP pg 596 [.sl nl (ds.map Lin.av) cl] 655360 h (fun r h'=>∃ v1 v2,r = .tup [v1,v2]∧Own h' 655369 5 true v1 ((loopsP 0 ds).map Loop.av)∧Own h' 655377 2 true v2 ((atP 0 ds).map Lin.av)∧∀ q,q < 655360→h'.get q=h.get q):=by
 have hb:ds.length≤big:=by simp only [big];omega
 refine RetHP.ofX hf ?_
 unfold cf596
 simp only [go_sem,seval]
 refine XX_list ds (fun d r env hp=>∃ v1 v2,env=cf596E0 v1 v2 (.sl nl (ds.map Lin.av) cl) (.int .i64 ds.length) (.int .i64 d.length)∧Own hp 655369 5 true v1 ((loopsP 0 d).map Loop.av)∧Own hp 655377 2 true v2 ((atP 0 d).map Lin.av)∧∀ q,q < 655360→hp.get q=h.get q) ?_ ?_ ?_
 ·exact ⟨_,_,rfl,Own.nil _ _ _ _ _ _ rfl,Own.nil _ _ _ _ _ _ rfl,fun _ _=>rfl⟩
 ·rintro env hp ⟨v1,v2,rfl,o1,o2,hq⟩
  simp only [cf596L0,cf596E0,ltSelf,go_sem,seval]
  exact ⟨_,_,rfl,o1,o2,hq⟩
 ·rintro d x r env hp hes ⟨v1,v2,rfl,o1,o2,hq⟩
  obtain ⟨hget,e1,e2,ew⟩:=loopF hes hb
  have hi:d.length < 10:=by have:ds.length=d.length+(r.length+1):=by rw [hes];simp
                            omega
  clear hes
  simp only [cf596L0,cf596E0,e1,e2,hget,go_sem,seval]
  refine XO_tree (h108 d.length hi) (by simp only [go_sem,seval]) rfl ?_
  simp only [Lin.avc,go_sem,seval]
  generalize hH2:Hp.put (Hp.put hp 655361 (hp.next 655361) _) 655361 (hp.next 655361) _=H2
  have hot:∀ k,k ≠ 655361→H2.get k=hp.get k:=fun k hk=>by rw [← hH2,get_put,if_neg (Ne.symm hk),get_put,if_neg (Ne.symm hk)]
  have o1':=o1.mono (hot 655369 (by decide))
  have o2':=o2.mono (hot 655377 (by decide))
  have hq':∀ q,q < 655360→H2.get q=h.get q:=fun q hq2=>(hot q (by omega)).trans (hq q hq2)
  clear hot o1 o2 hq hH2
  refine XO_own (kb:=655360) (s:=9) o1' (El.loops _) (xs:=[(loopP d.length x).av]) (by intro y hy;simp at hy;subst hy;exact El.loop _) (by simp [loopsP_len];omega) (by decide) ?_
  intro v1' rd pa p1 hk1 hpa
  have o2'':=o2'.mono (hk1 655377 (by decide))
  have hq2:∀ q,q < 655360→(Eff.app H2 (Eff.pat rd pa)).get q=h.get q:=fun q hqq=>(hk1 q (by omega)).trans (hq' q hqq)
  generalize Eff.app H2 (Eff.pat rd pa)=H3 at p1 o2'' hq2 ⊢
  clear o1' o2' hq' hk1
  simp only [go_sem,seval]
  refine XO_tree (h597 (loopStr d.length) 0 (.inl rfl)) (by simp only [go_sem,seval]) rfl ?_
  simp only [go_sem,seval]
  refine XO_own (kb:=655360) (s:=17) o2'' (El.lins _) (xs:=[(varL (loopStr d.length) 0).av]) (by intro y hy;simp at hy;subst hy;exact El.lin _) (by simp [atP_len];omega) (by decide) ?_
  intro v2' rd2 pa2 p2 hk2 hpa2
  have p1':=p1.mono (hk2 655369 (by decide))
  have hq3:∀ q,q < 655360→(Eff.app H3 (Eff.pat rd2 pa2)).get q=h.get q:=fun q hqq=>(hk2 q (by omega)).trans (hq2 q hqq)
  simp only [ew,go_sem,seval]
  refine ⟨v1',v2',rfl,?_,?_,hq3⟩
  ·rw [loopsP_snoc];simpa using p1'
  ·rw [atP_snoc];simpa using p2
theorem conv_two' {h:Hp} {v1 v2 t1 t2:AV} {k1 k2:List Nat} (h1:snap 63 h v1=some (t1,k1)) (h2:snap 63 h v2=some (t2,k2)):conv h (.tup [v1,v2])=some (.tup [t1,t2]):=by
 show (snap 64 h (.tup [v1,v2])).map (·.1)=_
 unfold snap
 split
 ·rename_i ht
  simp only [AV.tree,treeL,Bool.and_eq_true,Bool.and_true] at ht
  have e1:snap 63 h v1=some (v1,[]):=by unfold snap;rw [if_pos ht.1]
  have e2:snap 63 h v2=some (v2,[]):=by unfold snap;rw [if_pos ht.2]
  rw [e1] at h1;rw [e2] at h2
  cases h1;cases h2
  rfl
 ·simp only [mapS,h1,h2,Option.map_some,Option.map]
def loopsR (ds:List Lin) (r:AV):Prop:=∃ n1 c1 n2 c2,r = .tup [.sl n1 ((loopsP 0 ds).map Loop.av) c1,.sl n2 ((atP 0 ds).map Lin.av) c2]
theorem c596 (h108:∀ i:Nat,i < 10→Ret pg 108 [.int .i64 i] (.str (loopN' i))) (h597:∀ (s:Str) (less:Int),less=0∨less=1→Ret pg 597 [.str s.bs,.int .i64 less] (varL s less).av) (hf:pg.fs 596=some cf596) (nl cl:Bool) (ds:List Lin) (hd:ds.length < 10) :
  RetP pg 596 [.sl nl (ds.map Lin.av) cl] (loopsR ds):=by
 obtain ⟨r,h',⟨n,hn⟩,v1,v2,rfl,o1,o2,_⟩:=c596_0 h108 h597 hf nl cl ds hd []
 obtain ⟨n1,c1,k1,s1,_⟩:=o1.snap (El.loops _) 61
 obtain ⟨n2,c2,k2,s2,_⟩:=o2.snap (El.lins _) 61
 exact ⟨_,⟨n,by simp only [callP,hn];exact conv_two' s1 s2⟩,n1,c1,n2,c2,rfl⟩
theorem c575 (hf:pg.fs 575=some cf575) (ds:List Lin) (hd:ds.length < 10) (nl cl:Bool) (h596:RetP pg 596 [.sl nl (ds.map Lin.av) cl] (loopsR ds)) (v:Int) (p:Pull):RetP pg 575 [.int .i64 v,.sl nl (ds.map Lin.av) cl,p.av] (fun r=>∃ n:Nest,r=n.av∧IsWrites n v ds p):=by
 obtain ⟨r,hr,n1,c1,n2,c2,rfl⟩:=h596
 refine RetP.ofX hf ?_
 unfold cf575
 simp only [go_sem,seval]
 refine XO_tree hr (by simp only [go_sem,seval]) (by first | rfl | simp [AV.tree,go_sem]) ?_
 simp only [go_sem,seval]
 refine ⟨⟨⟨n1,loopsP 0 ds,c1,by rw [loopsP_len];simp only [big];omega⟩,v,⟨n2,atP 0 ds,c2,by rw [atP_len];simp only [big];omega⟩,false,zeroP,0,p⟩,?_,⟨rfl,rfl,rfl,rfl,rfl,rfl,rfl⟩⟩
 rw [Nest.avc]
 rfl
end
end Go.Tev
end
section
namespace Go.Tev
theorem freezeK_keys:∀ (S:List Nat) (h:Hp),∀ x∈freezeK h S,x.k∈S
 | [],h,x,hx=>by simp [freezeK] at hx
 | k :: r,h,x,hx=>by
  simp only [freezeK] at hx
  split at hx
  ·rcases List.mem_cons.1 hx with rfl | hx
   ·simp
   ·exact List.mem_cons_of_mem _ (freezeK_keys r _ x hx)
  ·exact List.mem_cons_of_mem _ (freezeK_keys r _ x hx)
theorem freeze_get {h:Hp} {S:List Nat} {j:Nat} (hj:j ∉ S):(Eff.app h (.pat S (freezeK h S))).get j=h.get j:=by
 show (putAll h (freezeK h S)).get j=h.get j
 refine putAll_get_not _ _ (fun hm=>?_)
 obtain ⟨x,hx,rfl⟩:=List.mem_map.1 hm
 exact hj (freezeK_keys S h x hx)
theorem Own.snapK {h:Hp} {k0 esz:Nat} {ag:Bool} {v:AV} {es:List AV} (o:Own h k0 esz ag v es) (he:∀ x∈es,El esz ag x) (d:Nat):∃ nl cl keys,Tev.snap (d+2) h v=some (.sl nl es cl,keys)∧(∀ q∈keys,q=k0):=by
 rcases o with ⟨rfl,nl,cl,rfl,hc⟩ | ⟨e,cs,rfl,hg,hu⟩
 ·exact ⟨nl,cl,[],by rw [snapX];rfl,by simp⟩
 ·obtain ⟨cs',h1,h2,h3,h4⟩:=chunk_el he
  rw [hu] at h1;cases h1
  have h5:=h4 []
  rw [List.append_nil] at h5
  have ht:treeL es=true:=by
   clear h2 h4 h5 hu hg
   induction es with
   | nil=>rfl
   | cons x r ih=>simp only [treeL,Bool.and_eq_true];exact ⟨(he x (by simp)).tree,ih (fun y hy=>he y (List.mem_cons_of_mem _ hy))⟩
  have h6:mapS (Tev.snap (d+1) h) es=some (es,[]):=mapS_tree d h ht
  exact ⟨false,false,[k0],by rw [snapX];simp [hg,h5,h6,AV.tree],by simp⟩
theorem Own.setLast {h:Hp} {k esz:Nat} {ag:Bool} {v:AV} {a:List AV} {b c:AV} (o:Own h k esz ag v (a++[b])) (ha:∀ x∈a,El esz ag x) (hb:El esz ag b) (hc:El esz ag c) :
  ∃ e cs,v = .rf k e 0 (a.length+1) (a.length+1)∧h.get k=some (e,.blk cs esz ag false false)∧cs.length=(a.length+1)*esz∧Own (h.put k e (.blk (writeA cs (a.length*esz) c.cells) esz ag false false)) k esz ag v (a++[c]):=by
 rcases o with ⟨h1,_⟩ | ⟨e,cs,rfl,hg,hu⟩
 ·simp at h1
 obtain ⟨ca,a1,a2,_,_⟩:=chunk_el ha
 obtain ⟨cb,b1,b2,_,_⟩:=chunk_el (es:=[b]) (by intro x hx;simp at hx;subst hx;exact hb)
 obtain ⟨cc,c1,c2,_,_⟩:=chunk_el (es:=[c]) (by intro x hx;simp at hx;subst hx;exact hc)
 have hcs:cs=ca++cb:=by
  have:=unchunk_append a1 b1
  rw [hu] at this
  exact Option.some.inj this
 have hcc:cc=c.cells:=by
  have hx:=hc
  simp only [unchunk] at c1
  split at c1
  ·simpa using c1.symm
  ·cases c1
 have hla:ca.length=a.length*esz:=by rw [a2]
 have hlb:cb.length=esz:=by rw [b2];simp
 have hlc:cc.length=esz:=by rw [c2];simp
 refine ⟨e,cs,by simp,hg,?_,?_⟩
 ·rw [hcs,List.length_append,hla,hlb,Nat.add_mul,Nat.one_mul]
 ·refine .inr ⟨e,ca++cc,by simp,?_,unchunk_append a1 c1⟩
  rw [get_put,if_pos rfl]
  have:writeA cs (a.length*esz) c.cells=ca++cc:=by
   rw [writeA,hcs,← hla,← hcc]
   simp [hlb,hlc]
  rw [this]
section
variable {pg:Pg} {kb:Nat}
theorem XO_frz {s:Nat} {h:Hp} {v t:AV} {keys:List Nat} {Q:AV→Eff→Prop} {tk:Tok Q} (hs:snap depth h v=some (t,keys)) (q:Q t (.pat keys (freezeK h keys))):XO pg kb .frz s h [v] Q tk:=by
 have e:f_frz h [v]=some (t,.pat keys (freezeK h keys)):=by simp [f_frz,mapS,hs]
 show WO pg kb .frz s h [v] Q
 rw [WO_op rfl]
 show optQ (f_frz h [v]) Q
 rw [e]
 exact q
end
def readStr:Str:=⟨[114,101,97,100],by simp [big]⟩
def codeStr:Str:=⟨[99,111,100,101],by simp [big]⟩
def ifStr:Str:=⟨[105,102],by simp [big]⟩
def readP (v:Int) (a:Sl Lin):Pull:=.mk readStr 0 v noStr a false 0 (nilS Step) true [] true
def scanP (x:Kernel) (last:Lin) (a:Sl Lin):Pull:=
 .mk ifStr 0 0 noStr (oneS last) false 0 (nilS Step) false [.mk codeStr 0 0 noStr (nilS Lin) false 0 x.fn false [readP x.value a,x.body] true,x.body] true
def beforeP (ds:List Lin):List Lin:=(atP 0 ds).dropLast++[varL (loopStr (ds.length - 1)) 1]
section
variable {pg:Pg}
set_option maxHeartbeats 2000000 in
theorem c576 (hf:pg.fs 576=some cf576) (h108:∀ i:Nat,i < 10→Ret pg 108 [.int .i64 i] (.str (loopN' i))) (h597:∀ (s:Str) (less:Int),less=0∨less=1→Ret pg 597 [.str s.bs,.int .i64 less] (varL s less).av) (h596:pg.fs 596=some cf596)
  (x:Kernel) (hd:x.space.es.length < 10) (hne:x.space.es ≠ []):RetP pg 576 [x.av] (fun r=>∃ a:Sl Lin,a.es=beforeP x.space.es∧r=(scanP x (varL (loopStr (x.space.es.length - 1)) 1) a).av):=by
 have hB:=fun h=>c596_1 h108 h597 h596 x.space.nl x.space.cl x.space.es hd h
 obtain ⟨ds',dl,hds⟩:∃ ds' dl,x.space.es=ds'++[dl]:=by
  rcases List.eq_nil_or_concat x.space.es with h | ⟨a,b,h⟩
  ·exact absurd h hne
  ·exact ⟨a,b,by simpa using h⟩
 have hn:x.space.es.length=ds'.length+1:=by rw [hds];simp
 have hat:atP 0 x.space.es=atP 0 ds'++[varL (loopStr ds'.length) 0]:=by rw [hds,atP_snoc]
 have hbe:beforeP x.space.es=atP 0 ds'++[varL (loopStr ds'.length) 1]:=by rw [beforeP,hat,hn];simp
 have hw:wr .i64 ((x.space.es.length:Int) - 1)=(ds'.length:Int):=by rw [hn,wr_small (by omega) (by omega)];omega
 have hi:ds'.length < 10:=by omega
 rw [hbe,hn,Nat.add_sub_cancel]
 refine RetP.ofX hf ?_
 unfold cf576
 simp only [go_sem,seval]
 refine XO_callHP (B:=655360) (.inl rfl) (by rfl) (hB _) ?_
 rintro r h' ⟨v1,v2,rfl,o1,o2,hq⟩
 have g1:=hq 1 (by omega)
 have g5:=hq 5 (by omega)
 rw [hat,List.map_append] at o2
 obtain ⟨e,cs,rfl,hg,hcs,o3⟩:=o2.setLast (El.lins _) (El.lin _) (El.lin (varL (loopStr ds'.length) 1))
 simp only [List.length_map,atP_len] at hcs o3 ⊢
 simp only [go_sem,seval] at g1 g5
 clear o1 hq o2 hB
 have q1:((ds'.length:Int) < ((ds'.length+1:Nat):Int))=True:=eq_true (by omega)
 have q2:wr .i64 (((ds'.length+1:Nat):Int) - 1)=(ds'.length:Int):=by rw [wr_small (by omega) (by omega)];omega
 simp only [g1,hw,go_sem,seval]
 refine XO_tree (h108 ds'.length hi) (by simp only [go_sem,seval]) rfl ?_
 simp only [q1,q2,go_sem,seval]
 refine XO_tree (h597 (loopStr ds'.length) 1 (.inr rfl)) (by simp only [go_sem,seval]) rfl ?_
 have q3:(0+ds'.length*2+2≤cs.length)=True:=by simp;omega
 simp only [q1,q2,hg,q3,go_sem,seval]
 generalize hH3:Hp.put h' 655377 e _=H3
 have o4:Own H3 655377 2 true (.rf 655377 e 0 (ds'.length+1) (ds'.length+1)) ((atP 0 ds'++[varL (loopStr ds'.length) 1]).map Lin.av):=by
  rw [← hH3]
  simpa [Lin.cells_av,writeA] using o3
 have p1:H3.get 1=h'.get 1:=by rw [← hH3,get_put,if_neg (by omega)]
 have p5:H3.get 5=h'.get 5:=by rw [← hH3,get_put,if_neg (by omega)]
 clear hH3 o3
 obtain ⟨nl4,cl4,keys,hs,hk⟩:=o4.snapK (El.lins _) 62
 have f1:=(freeze_get (h:=H3) (S:=keys) (j:=1) (fun hm=>by have:=hk 1 hm;omega)).trans (p1.trans g1)
 have f5:=(freeze_get (h:=H3) (S:=keys) (j:=5) (fun hm=>by have:=hk 5 hm;omega)).trans (p5.trans g5)
 simp only [g1,go_sem,seval]
 refine XO_frz hs ?_
 generalize Eff.app H3 (.pat keys (freezeK H3 keys))=H4 at f1 f5 ⊢
 simp only [f1,f5,go_sem,seval]
 refine XO_tree (h597 (loopStr ds'.length) 1 (.inr rfl)) (by simp only [go_sem,seval]) rfl ?_
 simp only [f1,f5,go_sem,seval]
 refine And.intro (by kernel_rfl) ?_
 refine ⟨⟨nl4,atP 0 ds'++[varL (loopStr ds'.length) 1],cl4,by rw [List.length_append,atP_len];simp [big];omega⟩,rfl,?_⟩
 rw [scanP,Pull.avc]
 simp only [readP,Pull.avc (Pull.mk _ _ _ _ _ _ _ _ _ _ _),Pull.avc x.body,Pull.op,Pull.num,Pull.value,Pull.name,Pull.at_,Pull.dyn,Pull.check,Pull.fn,Pull.knl,Pull.kids,Pull.kcl,nilS,oneS,readStr,codeStr,ifStr,noStr,List.map_cons,List.map_nil]
end
end Go.Tev
end
section
namespace Go.Tev
def slS {α : Type} (l:List α):Sl α:=if h:l.length≤big then ⟨false,l,false,h⟩ else ⟨false,[],false,by simp [big]⟩
theorem slS_es {α : Type} {l:List α} (h:l.length≤big):(slS l).es=l:=by rw [slS,dif_pos h]
theorem mapS_of {α : Type} {f : α → α} {s t:Sl α} (h:s.es.map f=t.es.map f):s.mapS f=t.mapS f:=by
 obtain ⟨a,b,c,d⟩:=s
 obtain ⟨a',b',c',d'⟩:=t
 simp only [Sl.mapS]
 simp only at h
 congr 1
def wrS (v:Int) (ds:List Lin) (p:Pull):Nest:=(⟨slS (loopsP 0 ds),v,slS (atP 0 ds),false,zeroP,0,p⟩:Nest).strip
def upS (x:Kernel):Nest:=(⟨slS (loopsP 0 x.space.es),x.value,slS (atP 0 x.space.es),true,x.index,x.check,x.body⟩:Nest).strip
theorem IsWrites.strip {n:Nest} {v:Int} {ds:List Lin} {p:Pull} (h:IsWrites n v ds p) (hd:ds.length < 10):n.strip=wrS v ds p:=by
 obtain ⟨h1,h2,h3,h4,h5,h6,h7⟩:=h
 obtain ⟨l,v',a,dy,ix,ch,bo⟩:=n
 simp only at h1 h2 h3 h4 h5 h6 h7
 subst h3 h4 h5 h6 h7
 have hl:(loopsP 0 ds).length≤big:=by rw [loopsP_len];simp only [big];omega
 have ha:(atP 0 ds).length≤big:=by rw [atP_len];simp only [big];omega
 simp only [wrS,Nest.strip]
 rw [mapS_of (s:=l) (t:=slS (loopsP 0 ds)) (by rw [slS_es hl,h1]),mapS_of (s:=a) (t:=slS (atP 0 ds)) (by rw [slS_es ha,h2])]
def lastL (ds:List Lin):Lin:=varL (loopStr (ds.length - 1)) 1
theorem scanP_strip (x:Kernel) (l:Lin) {a b:Sl Lin} (h:a.es=b.es):(scanP x l a).strip=(scanP x l b).strip:=by
 have e:a.mapS Lin.strip=b.mapS Lin.strip:=mapS_of (by rw [h])
 simp only [scanP,readP,Pull.strip,Pull.strips,e]
theorem readP_strip (v:Int) {a b:Sl Lin} (h:a.es=b.es):(readP v a).strip=(readP v b).strip:=by
 have e:a.mapS Lin.strip=b.mapS Lin.strip:=mapS_of (by rw [h])
 simp only [readP,Pull.strip,Pull.strips,e]
theorem wrS_congr (v:Int) (ds:List Lin) {p q:Pull} (h:p.strip=q.strip):wrS v ds p=wrS v ds q:=by simp only [wrS,Nest.strip,h]
def dimsOf (k:Kernels) (v:Int):List Lin:=match k.values.es[v.toNat]? with | some t=>t.shape.dims.es | none=>[]
def madeS (k:Kernels) (x:Kernel) (ip:Bool):Option (List Nest):=
 if x.kind=1 then some [wrS x.value x.space.es x.body]
 else if x.kind=2 then (if x.space.es=[] then none else some [wrS x.value x.space.es (scanP x (lastL x.space.es) (slS (beforeP x.space.es)))])
 else if x.kind=3 then some ((if !ip && !decide (x.source=x.value) then [wrS x.value (dimsOf k x.value) (readP x.source (slS (atP 0 (dimsOf k x.value))))] else [])++[upS x])
 else none
def ofU (k:Kernels) (i:Int) (ip:Bool):List Nest × Int:=
 if i < 0 then ([],2) else
 match k.list.es[i.toNat]? with
 | none=>([],2)
 | some x=>if x.value < 0∨(k.values.es.length:Int)≤x.value then ([],1) else
  match madeS k x ip with
  | none=>([],1)
  | some ns=>if ns.all (fun n=>nestOK n k.vars.es k.values.es.length) then (ns,0) else ([],1)
def ofR (k:Kernels) (i:Int) (ip:Bool) (r:AV):Prop:=∃ (nl cl:Bool) (ms:List Nest),r = .tup [.sl nl (ms.map Nest.av) cl,.int .i64 (ofU k i ip).2]∧ms.map Nest.strip=(ofU k i ip).1
theorem ofR_bad {k:Kernels} {i:Int} {ip:Bool} {e:Int} (h:ofU k i ip=([],e)):ofR k i ip (.tup [.sl true [] true,.int .i64 e]):=⟨true,true,[],by rw [h];rfl,by rw [h];rfl⟩
theorem ofR_good {k:Kernels} {i:Int} {ip:Bool} {nl cl:Bool} {ms ns:List Nest} (h:ofU k i ip=(ns,0)) (hm:ms.map Nest.strip=ns):ofR k i ip (.tup [.sl nl (ms.map Nest.av) cl,.int .i64 0]):=⟨nl,cl,ms,by rw [h],by rw [h];exact hm⟩
theorem all_strip (ms:List Nest) (vars:List Str) (v:Int):(ms.map Nest.strip).all (fun n=>nestOK n vars v)=ms.all (fun n=>nestOK n vars v):=by
 rw [List.all_map]
 congr 1
 funext n
 exact nestOK_strip n vars v
end Go.Tev
end
section
namespace Go.Tev
theorem El.nest (x:Nest):El 23 true x.av:=⟨Nest.fits_av x,by simp only [go_sem,seval],by simp only [go_sem,seval]⟩
section
variable {pg:Pg}
def updS (k:Kernels) (x:Kernel) (ip:Bool):List Nest:=
 (if !ip && !decide (x.source=x.value) then [wrS x.value (dimsOf k x.value) (readP x.source (slS (atP 0 (dimsOf k x.value))))] else [])++[upS x]
theorem up_strip {n:Nest} {x:Kernel} (h:IsWrites n x.value x.space.es x.body) (hd:x.space.es.length < 10):(⟨n.loops,n.value,n.at_,true,x.index,x.check,n.body⟩:Nest).strip=upS x:=by
 obtain ⟨h1,h2,h3,h4,h5,h6,h7⟩:=h
 have hl:(loopsP 0 x.space.es).length≤big:=by rw [loopsP_len];simp only [big];omega
 have ha:(atP 0 x.space.es).length≤big:=by rw [atP_len];simp only [big];omega
 simp only [upS,Nest.strip,h3,h7]
 rw [mapS_of (s:=n.loops) (t:=slS (loopsP 0 x.space.es)) (by rw [slS_es hl,h1]),mapS_of (s:=n.at_) (t:=slS (atP 0 x.space.es)) (by rw [slS_es ha,h2])]
set_option maxHeartbeats 4000000 in
theorem c577 (hf:pg.fs 577=some cf577) (h596:∀ (nl cl:Bool) (ds:List Lin),ds.length < 10→RetP pg 596 [.sl nl (ds.map Lin.av) cl] (loopsR ds))
  (h575:∀ (ds:List Lin),ds.length < 10→∀ (nl cl:Bool) (v:Int) (p:Pull),RetP pg 575 [.int .i64 v,.sl nl (ds.map Lin.av) cl,p.av] (fun r=>∃ n:Nest,r=n.av∧IsWrites n v ds p))
  (k:Kernels) (x:Kernel) (ip:Bool) (hv0:0≤x.value) (t:Typ) (ht:k.values.es[x.value.toNat]?=some t) (hd:x.space.es.length < 10) (hdv:t.shape.dims.es.length < 10) :
  RetP pg 577 [k.av,x.av,.bool ip] (fun r=>∃ ms:List Nest,IsSl 23 true (ms.map Nest.av) r∧ms.map Nest.strip=updS k x ip):=by
 have hdim:dimsOf k x.value=t.shape.dims.es:=by rw [dimsOf,ht]
 have hv0':(0≤x.value)=True:=eq_true hv0
 obtain ⟨r3,a3,n3,rfl,w3⟩:=h575 x.space.es hd x.space.nl x.space.cl x.value x.body
 rw [Pull.avc] at a3
 have e3:=up_strip w3 hd
 refine RetP.ofX hf ?_
 unfold cf577
 cases hc:(!ip && !decide (x.source=x.value))
 case false=>
  have hsp:updS k x ip=[upS x]:=by rw [updS,hc];rfl
  rw [hsp]
  have hcond:(ip=true∨(ip=false∧decide (x.source=x.value)=true)):=by cases ip<;>simp_all
  rcases hcond with rfl | ⟨rfl,b2⟩
  ·simp only [go_sem,seval]
   refine XO_tree a3 (by simp only [go_sem,seval]) (by rw [Nest.avc];rfl) ?_
   simp only [Nest.avc,go_sem,seval]
   refine And.intro (by kernel_rfl) ?_
   refine XO_own (kb:=0) (s:=29) (Own.nil _ _ _ _ true true rfl) (by simp) (xs:=[(⟨n3.loops,n3.value,n3.at_,true,x.index,x.check,n3.body⟩:Nest).av]) (by intro y hy;simp at hy;subst hy;exact El.nest _) (by simp) (by decide) ?_
   intro v' rd pa o _ _
   simp only [go_sem,seval]
   obtain ⟨r,hr,hs⟩:=o.conv (by intro y hy;simp at hy;subst hy;exact El.nest _)
   exact ⟨r,hr,[_],hs,by rw [List.map_cons,e3];rfl⟩
  ·simp only [b2,go_sem,seval]
   refine XO_tree a3 (by simp only [go_sem,seval]) (by rw [Nest.avc];rfl) ?_
   simp only [Nest.avc,go_sem,seval]
   refine And.intro (by kernel_rfl) ?_
   refine XO_own (kb:=0) (s:=29) (Own.nil _ _ _ _ true true rfl) (by simp) (xs:=[(⟨n3.loops,n3.value,n3.at_,true,x.index,x.check,n3.body⟩:Nest).av]) (by intro y hy;simp at hy;subst hy;exact El.nest _) (by simp) (by decide) ?_
   intro v' rd pa o _ _
   simp only [go_sem,seval]
   obtain ⟨r,hr,hs⟩:=o.conv (by intro y hy;simp at hy;subst hy;exact El.nest _)
   exact ⟨r,hr,[_],hs,by rw [List.map_cons,e3];rfl⟩
 case true=>
  have hsp:updS k x ip=[wrS x.value t.shape.dims.es (readP x.source (slS (atP 0 t.shape.dims.es))),upS x]:=by rw [updS,hc,hdim];rfl
  rw [hsp]
  obtain ⟨rfl,b2⟩:ip=false∧decide (x.source=x.value)=false:=by cases ip<;>simp_all
  obtain ⟨r1,a1,nl1,cl1,nl2,cl2,rfl⟩:=h596 t.shape.dims.nl t.shape.dims.cl t.shape.dims.es hdv
  have hal:(atP 0 t.shape.dims.es).length≤big:=by rw [atP_len];simp only [big];omega
  obtain ⟨r2,a2,n2,rfl,w2⟩:=h575 t.shape.dims.es hdv t.shape.dims.nl t.shape.dims.cl x.value (readP x.source ⟨nl2,atP 0 t.shape.dims.es,cl2,hal⟩)
  have e2:n2.strip=wrS x.value t.shape.dims.es (readP x.source (slS (atP 0 t.shape.dims.es))):=by
   rw [w2.strip hdv]
   exact wrS_congr _ _ (readP_strip _ (by rw [slS_es hal]))
  have z2:(readP x.source ⟨nl2,atP 0 t.shape.dims.es,cl2,hal⟩).av=_:=Pull.avc _
  rw [z2] at a2
  simp only [b2,ht,hv0',go_sem,seval]
  refine XO_tree a1 (by simp only [go_sem,seval]) (by first | rfl | simp [AV.tree,go_sem]) ?_
  simp only [ht,hv0',go_sem,seval]
  refine XO_tree a2 (by simp only [go_sem,seval]) (by rw [Nest.avc];rfl) ?_
  simp only [go_sem,seval]
  refine XO_appNil (kb:=0) (s:=17) (xs:=[n2.av]) (by intro y hy;simp at hy;subst hy;exact El.nest _) (by simp) (by decide) (fun h=>by cases h) ?_
  intro _ cs hu
  simp only [go_sem,seval]
  refine And.intro (by kernel_rfl) ?_
  refine XO_tree a3 (by simp only [go_sem,seval]) (by rw [Nest.avc];rfl) ?_
  simp only [Nest.avc,go_sem,seval]
  refine And.intro (by kernel_rfl) ?_
  refine XO_own3 (kb:=0) (s:=29) (k1:=17) (es:=[n2.av]) (.inr ⟨_,cs,rfl,?_,hu⟩) (by intro y hy;simp at hy;subst hy;exact El.nest _) (xs:=[(⟨n3.loops,n3.value,n3.at_,true,x.index,x.check,n3.body⟩:Nest).av]) (by intro y hy;simp at hy;subst hy;exact El.nest _) (by simp) (by simp) (by decide) ?_
  ·simp only [go_sem,seval]
  intro v' rd pa o _
  simp only [go_sem,seval]
  obtain ⟨r,hr,hs⟩:=o.conv (by intro y hy;simp at hy;rcases hy with rfl | rfl<;>exact El.nest _)
  exact ⟨r,hr,[n2,_],hs,by rw [List.map_cons,List.map_cons,e2,e3];rfl⟩
end
end Go.Tev
end
section
namespace Go.Tev
theorem szP (op:Str) (num value:Int) (name:Str) (a:Sl Lin) (d:Bool) (c:Int) (f:Sl Step) (n:Bool) (kids:List Pull) (cl:Bool):(Pull.mk op num value name a d c f n kids cl).sz=1+Pull.szL kids:=Pull.sz_eq _
theorem okP (op:Str) (num value:Int) (name:Str) (a:Sl Lin) (d:Bool) (c:Int) (f:Sl Step) (n:Bool) (kids:List Pull) (cl:Bool):(Pull.mk op num value name a d c f n kids cl).ok↔kids.length≤big∧∀ q∈kids,q.ok:=Pull.ok_iff _
theorem readP_ok (v:Int) (a:Sl Lin):(readP v a).ok:=by rw [readP,okP];simp
theorem readP_sz (v:Int) (a:Sl Lin):(readP v a).sz=1:=by rw [readP,szP];simp [Pull.szL]
theorem scanP_ok (x:Kernel) (l:Lin) (a:Sl Lin) (h:x.body.ok):(scanP x l a).ok:=by
 rw [scanP,okP]
 refine ⟨by simp [big],fun q hq=>?_⟩
 simp only [List.mem_cons,List.not_mem_nil,or_false] at hq
 rcases hq with rfl | rfl
 ·rw [okP]
  refine ⟨by simp [big],fun q hq=>?_⟩
  simp only [List.mem_cons,List.not_mem_nil,or_false] at hq
  rcases hq with rfl | rfl
  ·exact readP_ok _ _
  ·exact h
 ·exact h
theorem scanP_sz (x:Kernel) (l:Lin) (a:Sl Lin):(scanP x l a).sz=3+2*x.body.sz:=by
 rw [scanP,szP]
 simp only [Pull.szL,szP,readP_sz]
 omega
theorem zeroP_ok:zeroP.ok:=by rw [zeroP,okP];simp
theorem zeroP_sz:zeroP.sz=1:=by rw [zeroP,szP];simp [Pull.szL]
theorem wrS_ok {vars:List Str} {v:Int} {ds:List Lin} {p:Pull} (hd:ds.length < 10) (hp:p.ok) (hs:vars.length+p.sz+20≤big):NestOK (wrS v ds p) vars:=by
 have hl:(slS (loopsP 0 ds)).es.length=ds.length:=by rw [slS_es,loopsP_len];rw [loopsP_len];simp only [big];omega
 refine ⟨(Pull.ok_strip _).2 hp,(Pull.ok_strip _).2 zeroP_ok,?_⟩
 simp only [wrS,Nest.strip,Sl.mapS,List.length_map,hl,Pull.sz_strip,zeroP_sz]
 omega
theorem upS_ok {vars:List Str} {x:Kernel} (hd:x.space.es.length < 10) (hp:x.body.ok) (hi:x.index.ok) (hs:vars.length+x.body.sz+x.index.sz+20≤big):NestOK (upS x) vars:=by
 have hl:(slS (loopsP 0 x.space.es)).es.length=x.space.es.length:=by rw [slS_es,loopsP_len];rw [loopsP_len];simp only [big];omega
 refine ⟨(Pull.ok_strip _).2 hp,(Pull.ok_strip _).2 hi,?_⟩
 simp only [upS,Nest.strip,Sl.mapS,List.length_map,hl,Pull.sz_strip]
 omega
structure Short (k:Kernels):Prop where
 sp:∀ q∈k.list.es,q.space.es.length < 10
 di:∀ t∈k.values.es,t.shape.dims.es.length < 10
theorem dims_lt {k:Kernels} (S:Short k) (v:Int):(dimsOf k v).length < 10:=by
 rw [dimsOf]
 split
 ·rename_i t ht
  exact S.di t (List.mem_of_getElem? ht)
 ·simp
theorem madeS_ok {k:Kernels} (K:KOK k) (S:Short k) {x:Kernel} (hx:x∈k.list.es) {ip:Bool} {ns:List Nest} (h:madeS k x ip=some ns):∀ n∈ns,NestOK n k.vars.es:=by
 obtain ⟨hb,hi,_,_⟩:=K.ks x hx
 have hs:=K.sm x hx
 have hd:=S.sp x hx
 intro n hn
 unfold madeS at h
 split at h
 ·cases h
  simp only [List.mem_cons,List.not_mem_nil,or_false] at hn
  subst hn
  exact wrS_ok hd hb (by simp only [big];omega)
 ·split at h
  ·split at h
   ·cases h
   ·cases h
    simp only [List.mem_cons,List.not_mem_nil,or_false] at hn
    subst hn
    exact wrS_ok hd (scanP_ok _ _ _ hb) (by rw [scanP_sz];simp only [big];omega)
  ·split at h
   ·cases h
    rcases List.mem_append.1 hn with hn | hn
    ·split at hn
     ·simp only [List.mem_cons,List.not_mem_nil,or_false] at hn
      subst hn
      exact wrS_ok (dims_lt S _) (readP_ok _ _) (by rw [readP_sz];simp only [big];omega)
     ·cases hn
    ·simp only [List.mem_cons,List.not_mem_nil,or_false] at hn
     subst hn
     exact upS_ok hd hb hi (by simp only [big];omega)
   ·cases h
theorem made_ok {k:Kernels} (K:KOK k) (S:Short k) {x:Kernel} (hx:x∈k.list.es) {ip:Bool} {ns ms:List Nest} (h:madeS k x ip=some ns) (hm:ms.map Nest.strip=ns):∀ n∈ms,NestOK n k.vars.es:=by
 intro n hn
 have h1:n.strip∈ns:=by rw [← hm];exact List.mem_map_of_mem hn
 have hm:=madeS_ok K S hx h _ h1
 exact ⟨(Pull.ok_strip _).1 hm.body,(Pull.ok_strip _).1 hm.index,by have:=hm.sz;simpa [Nest.strip,Sl.mapS,Pull.sz_strip] using this⟩
section
variable {pg:Pg}
theorem c598 (hf:pg.fs 598=some cf598) (nl cl:Bool) (es:List Nest) (hb:es.length≤big) (g:Nat) (cs:List AV) (hcs:treeL cs=true) (p:Nest→Bool) (hp:∀ x∈es,Ret pg g (x.av :: cs) (.bool (p x))) :
  RetP pg 598 [.sl nl (es.map Nest.av) cl,.fn g cs] (fun r=>∃ i:Int,r = .int .i64 i∧decide (0≤i)=es.any p):=
 idxF_ok (f:=598) (esz:=23) (ag:=true) hf Nest.av Nest.fits_av Nest.tree_av nl cl es hb g cs hcs p hp
theorem c578 (hf:pg.fs 578=some cf578) (h598:pg.fs 598=some cf598) (nl cl:Bool) (es:List Nest) (hb:es.length≤big) (g:Nat) (cs:List AV) (hcs:treeL cs=true) (p:Nest→Bool) (hp:∀ x∈es,Ret pg g (x.av :: cs) (.bool (p x))) :
  Ret pg 578 [.sl nl (es.map Nest.av) cl,.fn g cs] (.bool (es.any p)):=
 conF_ok (n:=598) hf (by simp only [treeL,tree_sl,tree_fn,hcs,Nest.treeL_av,Bool.and_true]) (c598 h598 nl cl es hb g cs hcs p hp)
theorem c579 (hf:pg.fs 579=some cf579) (k:Kernels) (n:Nest) (b:Bool) (h557:Ret pg 557 [n.av,.sl k.vars.nl (k.vars.es.map Str.av) k.vars.cl,.int .i64 k.values.es.length] (.bool b)):Ret pg 579 [n.av,.fp k.av] (.bool (!b)):=by
 rw [Nest.avc] at h557
 refine Ret.ofX hf ?_
 unfold cf579
 simp only [go_sem,seval]
 refine XO_tree h557 (by simp only [go_sem,seval]) rfl ?_
 simp only [go_sem,seval]
set_option maxHeartbeats 4000000 in
theorem c560 (hf:pg.fs 560=some cf560)
  (h575:∀ (ds:List Lin),ds.length < 10→∀ (nl cl:Bool) (v:Int) (p:Pull),RetP pg 575 [.int .i64 v,.sl nl (ds.map Lin.av) cl,p.av] (fun r=>∃ n:Nest,r=n.av∧IsWrites n v ds p))
  (h576:∀ x:Kernel,x.space.es.length < 10→x.space.es ≠ []→RetP pg 576 [x.av] (fun r=>∃ a:Sl Lin,a.es=beforeP x.space.es∧r=(scanP x (lastL x.space.es) a).av))
  (h577:∀ (k:Kernels) (x:Kernel) (ip:Bool),0≤x.value→∀ t:Typ,k.values.es[x.value.toNat]?=some t→x.space.es.length < 10→t.shape.dims.es.length < 10→RetP pg 577 [k.av,x.av,.bool ip] (fun r=>∃ ms:List Nest,IsSl 23 true (ms.map Nest.av) r∧ms.map Nest.strip=updS k x ip))
  (h578:∀ (nl cl:Bool) (es:List Nest),es.length≤big→∀ (g:Nat) (cs:List AV),treeL cs=true→∀ p:Nest→Bool,(∀ x∈es,Ret pg g (x.av :: cs) (.bool (p x)))→Ret pg 578 [.sl nl (es.map Nest.av) cl,.fn g cs] (.bool (es.any p)))
  (k:Kernels) (K:KOK k) (S:Short k) (h579:∀ n:Nest,NestOK n k.vars.es→Ret pg 579 [n.av,.fp k.av] (.bool (!nestOK n k.vars.es k.values.es.length)))
  (i:Int) (ip:Bool):RetP pg 560 [k.av,.int .i64 i,.bool ip] (ofR k i ip):=by
 refine RetP.ofX hf ?_
 unfold cf560
 cases b1:decide (i < 0)
 case true=>
  simp only [b1,go_sem,seval]
  exact ofR_bad (by unfold ofU;rw [if_pos (of_decide_eq_true b1)])
 have hi0:¬ i < 0:=of_decide_eq_false b1
 cases b2:decide ((k.list.es.length:Int)≤i)
 case true=>
  simp only [b1,b2,go_sem,seval]
  have h2:=of_decide_eq_true b2
  exact ofR_bad (by unfold ofU;rw [if_neg hi0,List.getElem?_eq_none (by omega)])
 have h2:=of_decide_eq_false b2
 have hi1:(0≤i)=True:=eq_true (by omega)
 obtain ⟨x,hx⟩:∃ x,k.list.es[i.toNat]?=some x:=⟨_,List.getElem?_eq_getElem (by omega)⟩
 have hmem:=List.mem_of_getElem? hx
 have hsp:=S.sp x hmem
 have hof:ofU k i ip=if x.value < 0∨(k.values.es.length:Int)≤x.value then (([],1):List Nest × Int) else
   match madeS k x ip with
   | none=>([],1)
   | some ns=>if ns.all (fun n=>nestOK n k.vars.es k.values.es.length) then (ns,0) else ([],1):=by
  unfold ofU
  rw [if_neg hi0,hx]
  try rfl
 cases b3:decide (x.value < 0)
 case true=>
  simp only [b1,b2,hi1,hx,Kernel.avc,b3,go_sem,seval]
  exact ofR_bad (by rw [hof,if_pos (.inl (of_decide_eq_true b3))])
 cases b4:decide ((k.values.es.length:Int)≤x.value)
 case true=>
  simp only [b1,b2,hi1,hx,Kernel.avc,b3,b4,go_sem,seval]
  exact ofR_bad (by rw [hof,if_pos (.inr (of_decide_eq_true b4))])
 have h3:=of_decide_eq_false b3
 have h4:=of_decide_eq_false b4
 rw [if_neg (by omega)] at hof
 have hk:k.av=_:=Kernels.avc k
 have h579':∀ n:Nest,NestOK n k.vars.es→Ret pg 579 [n.av,.fp (.agg [.sl k.vars.nl (k.vars.es.map Str.av) k.vars.cl,.sl k.wher.nl (k.wher.es.map Lin.av) k.wher.cl,.int .i64 k.inputs,.sl k.values.nl (k.values.es.map Typ.av) k.values.cl,.sl k.list.nl (k.list.es.map Kernel.av) k.list.cl,.sl k.results.nl (k.results.es.map intA) k.results.cl])] (.bool (!nestOK n k.vars.es k.values.es.length)):=h579
 cases b5:decide (x.kind=1)
 case true=>
  obtain ⟨r,a1,n,rfl,w⟩:=h575 x.space.es hsp x.space.nl x.space.cl x.value x.body
  rw [Pull.avc] at a1
  have hmade:madeS k x ip=some [wrS x.value x.space.es x.body]:=by rw [madeS,if_pos (of_decide_eq_true b5)]
  have hst:[n].map Nest.strip=[wrS x.value x.space.es x.body]:=by rw [List.map_cons,w.strip hsp];rfl
  have a2:=h578 false true ([n]) (by simp [big]) 579 [.fp (.agg [.sl k.vars.nl (k.vars.es.map Str.av) k.vars.cl,.sl k.wher.nl (k.wher.es.map Lin.av) k.wher.cl,.int .i64 k.inputs,.sl k.values.nl (k.values.es.map Typ.av) k.values.cl,.sl k.list.nl (k.list.es.map Kernel.av) k.list.cl,.sl k.results.nl (k.results.es.map intA) k.results.cl])] (by simp only [go_sem,seval]) (fun n => !nestOK n k.vars.es k.values.es.length) (fun y hy=>h579' y (made_ok K S hmem hmade hst y hy))
  have hval:(([n]).any fun n => !nestOK n k.vars.es k.values.es.length) = !([wrS x.value x.space.es x.body]).all (fun n=>nestOK n k.vars.es k.values.es.length):=by
   rw [← hst,all_strip,List.not_all_eq_any_not]
  simp only [b1,b2,hi1,hx,Kernel.avc,b3,b4,b5,go_sem,seval]
  refine XO_tree a1 (by simp only [go_sem,seval]) (by rw [Nest.avc];rfl) ?_
  simp only [go_sem,seval]
  refine XO_call a2 (by simp only [depth,mapS_nil,mapS_cons,snapX,go_sem,seval];rfl) (by rfl) ?_
  rw [hval]
  cases hq:([wrS x.value x.space.es x.body]).all (fun n=>nestOK n k.vars.es k.values.es.length)
  ·simp only [go_sem,seval]
   exact ofR_bad (by rw [hof,hmade];simp only [hq];rfl)
  ·simp only [go_sem,seval]
   exact ofR_good (by rw [hof,hmade];simp only [hq];rfl) hst
 have k1:¬ x.kind=1:=of_decide_eq_false b5
 cases b6:decide (x.kind=2)
 case true=>
  have k2:x.kind=2:=of_decide_eq_true b6
  by_cases hne:x.space.es=[]
  ·have b7:decide (0 < (x.space.es.length:Int))=false:=by simp [hne]
   have b8:decide (x.kind=3)=false:=by simp [k2]
   simp only [b1,b2,hi1,hx,Kernel.avc,b3,b4,b5,b6,b7,b8,go_sem,seval]
   exact ofR_bad (by rw [hof,madeS,if_neg k1,if_pos k2,if_pos hne])
  have b7:decide (0 < (x.space.es.length:Int))=true:=by simp;exact List.length_pos_iff.2 hne
  obtain ⟨r0,a0,at0,hat0,rfl⟩:=h576 x hsp hne
  obtain ⟨r,a1,n,rfl,w⟩:=h575 x.space.es hsp x.space.nl x.space.cl x.value (scanP x (lastL x.space.es) at0)
  have hbl:(beforeP x.space.es).length≤big:=by rw [← hat0];exact at0.ok
  have hmade:madeS k x ip=some [wrS x.value x.space.es (scanP x (lastL x.space.es) (slS (beforeP x.space.es)))]:=by rw [madeS,if_neg k1,if_pos k2,if_neg hne]
  have hst:[n].map Nest.strip=[wrS x.value x.space.es (scanP x (lastL x.space.es) (slS (beforeP x.space.es)))]:=by
   rw [List.map_cons,w.strip hsp,wrS_congr _ _ (scanP_strip x (lastL x.space.es) (a:=at0) (b:=slS (beforeP x.space.es)) (by rw [slS_es hbl,hat0]))]
   rfl
  have a2:=h578 false true ([n]) (by simp [big]) 579 [.fp (.agg [.sl k.vars.nl (k.vars.es.map Str.av) k.vars.cl,.sl k.wher.nl (k.wher.es.map Lin.av) k.wher.cl,.int .i64 k.inputs,.sl k.values.nl (k.values.es.map Typ.av) k.values.cl,.sl k.list.nl (k.list.es.map Kernel.av) k.list.cl,.sl k.results.nl (k.results.es.map intA) k.results.cl])] (by simp only [go_sem,seval]) (fun n => !nestOK n k.vars.es k.values.es.length) (fun y hy=>h579' y (made_ok K S hmem hmade hst y hy))
  have hval:(([n]).any fun n => !nestOK n k.vars.es k.values.es.length) = !([wrS x.value x.space.es (scanP x (lastL x.space.es) (slS (beforeP x.space.es)))]).all (fun n=>nestOK n k.vars.es k.values.es.length):=by
   rw [← hst,all_strip,List.not_all_eq_any_not]
  rw [Kernel.avc] at a0
  simp only [b1,b2,hi1,hx,Kernel.avc,b3,b4,b5,b6,b7,go_sem,seval]
  refine XO_tree a0 (by simp only [go_sem,seval]) (by rw [Pull.avc];rfl) ?_
  simp only [go_sem,seval]
  refine XO_tree a1 (by simp only [go_sem,seval]) (by rw [Nest.avc];rfl) ?_
  simp only [go_sem,seval]
  refine And.intro (by kernel_rfl) ?_
  refine XO_call a2 (by simp only [depth,mapS_nil,mapS_cons,snapX,go_sem,seval];rfl) (by rfl) ?_
  rw [hval]
  cases hq:([wrS x.value x.space.es (scanP x (lastL x.space.es) (slS (beforeP x.space.es)))]).all (fun n=>nestOK n k.vars.es k.values.es.length)
  ·simp only [go_sem,seval]
   exact ofR_bad (by rw [hof,hmade];simp only [hq];rfl)
  ·simp only [go_sem,seval]
   exact ofR_good (by rw [hof,hmade];simp only [hq];rfl) hst
 have k2:¬ x.kind=2:=of_decide_eq_false b6
 cases b7:decide (x.kind=3)
 case false=>
  have k3:¬ x.kind=3:=of_decide_eq_false b7
  simp only [b1,b2,hi1,hx,Kernel.avc,b3,b4,b5,b6,b7,go_sem,seval]
  exact ofR_bad (by rw [hof,madeS,if_neg k1,if_neg k2,if_neg k3])
 have k3:x.kind=3:=of_decide_eq_true b7
 obtain ⟨t,ht⟩:∃ t,k.values.es[x.value.toNat]?=some t:=⟨_,List.getElem?_eq_getElem (by omega)⟩
 obtain ⟨r0,a0,ms,hms,hst⟩:=h577 k x ip (by omega) t ht hsp (S.di t (List.mem_of_getElem? ht))
 have hmade:madeS k x ip=some (updS k x ip):=by rw [madeS,if_neg k1,if_neg k2,if_pos k3];rfl
 have hlen:ms.length≤big:=by
  have:ms.length=(updS k x ip).length:=by rw [← hst,List.length_map]
  rw [this,updS]
  split<;>simp [big]
 have a0':RetP pg 577 [k.av,x.av,.bool ip] (IsSl 23 true (ms.map Nest.av)):=⟨r0,a0,hms⟩
 rw [Kernels.avc,Kernel.avc] at a0'
 have hval:((ms).any fun n => !nestOK n k.vars.es k.values.es.length) = !(updS k x ip).all (fun n=>nestOK n k.vars.es k.values.es.length):=by
  rw [← hst,all_strip,List.not_all_eq_any_not]
 simp only [b1,b2,hi1,hx,Kernel.avc,b3,b4,b5,b6,b7,go_sem,seval]
 refine XO_sl a0' (by simp only [go_sem,seval]) ?_
 intro nl2 cl2 _
 have a2:=h578 nl2 cl2 (ms) hlen 579 [.fp (.agg [.sl k.vars.nl (k.vars.es.map Str.av) k.vars.cl,.sl k.wher.nl (k.wher.es.map Lin.av) k.wher.cl,.int .i64 k.inputs,.sl k.values.nl (k.values.es.map Typ.av) k.values.cl,.sl k.list.nl (k.list.es.map Kernel.av) k.list.cl,.sl k.results.nl (k.results.es.map intA) k.results.cl])] (by simp only [go_sem,seval]) (fun n => !nestOK n k.vars.es k.values.es.length) (fun y hy=>h579' y (made_ok K S hmem hmade hst y hy))
 simp only [go_sem,seval]
 refine XO_call a2 (by simp only [depth,mapS_nil,mapS_cons,snapX,go_sem,seval];rfl) (by rfl) ?_
 rw [hval]
 cases hq:(updS k x ip).all (fun n=>nestOK n k.vars.es k.values.es.length)
 ·simp only [go_sem,seval]
  exact ofR_bad (by rw [hof,hmade];simp only [hq];rfl)
 ·simp only [go_sem,seval]
  exact ofR_good (by rw [hof,hmade];simp only [hq];rfl) hst
end
end Go.Tev
end
section
namespace Go.Tev
theorem b2s_one (h:Hp) (nl cl:Bool) (n:Nat) (hn:n < 256):f_b2s h [.sl nl [.int .u8 (n:Int)] cl]=some (.str [UInt8.ofNat n],.pat [] []):=by
 have h1:(0≤(n:Int)∧(n:Int)≤255):=by omega
 simp [f_b2s,srcCells,unchunk,bytesOf,AV.fits,AV.cells,allOne,AV.one,h1]
section
variable {pg:Pg}
theorem c163 (hf:pg.fs 163=some cf163) (i:Nat) (hi:i < 10):Ret pg 163 [.int .i64 i] (.str [UInt8.ofNat (48+i)]):=by
 refine Ret.ofX hf ?_
 have h1:((i:Int).tmod 10)=(i:Int):=by
  rw [Int.tmod_eq_emod_of_nonneg (by omega)];omega
 have h2:wr .i64 (48+(i:Int))=((48+i:Nat):Int):=by rw [wr_small (by omega) (by omega)];omega
 have h3:wr .u8 (((48+i:Nat):Int))=((48+i:Nat):Int):=by
  simp only [wr];rw [if_pos (by omega)]
 have h4:(i:Int).tdiv 10=0:=by
  rw [Int.tdiv_eq_ediv_of_nonneg (by omega)];omega
 have h5:wr .i64 0=0:=rfl
 have h6:=fun h nl cl=>b2s_one h nl cl (48+i) (by omega)
 have h7:((10:Int)=0)=False:=by simp
 unfold cf163
 simp only [h1,h2,h3,h4,h5,h7,↓h6,go_sem,seval]
 rw [XX_loop]
 simp only [cf163L0,cf163M0,go_sem,seval]
theorem c122 (hf:pg.fs 122=some cf122) (h163:pg.fs 163=some cf163) (i:Nat) (hi:i < 10):Ret pg 122 [.int .i64 i] (.str (loopN' i)):=by
 have a:=c163 h163 i hi
 have h1:decide ((i:Int) < 0)=false:=by simp
 refine Ret.ofX hf ?_
 unfold cf122
 simp only [h1,go_sem,seval]
 refine XO_tree a (by simp only [go_sem,seval]) rfl ?_
 simp only [go_sem,seval]
 rfl
end
end Go.Tev
end
section
namespace Go.Tev
section
variable {pg:Pg} {kb:Nat}
theorem XO_ownS {esz bytes s:Nat} {ag:Bool} {h:Hp} {v:AV} {es xs:List AV} {nl cl:Bool} {Q:AV→Eff→Prop} {t:Tok Q} (o:Own h (kb+s) esz ag v es) (he:∀ x∈es,El esz ag x) (hx:∀ x∈xs,El esz ag x) (hxs:xs ≠ [])
  (hl:es.length+xs.length≤1073741824) (hb:bytes≤65536)
  (q:∀ v' e ob,Own (h.put (kb+s) e ob) (kb+s) esz ag v' (es++xs)→Q v' (.pat [kb+s] [⟨kb+s,e,ob⟩])) :
  XO pg kb (.app esz ag bytes) s h [v,.sl nl xs cl] Q t:=by
 rw [XO_app]
 obtain ⟨ds,d1,d2,d3,_⟩:=chunk_el hx
 simp only [f_app,srcCells,d1,Option.map_some]
 have hn:xs.length ≠ 0:=by simpa using hxs
 rcases o with ⟨rfl,nl',cl',rfl,hc⟩ | ⟨e,cs,rfl,hg,hu⟩
 ·simp only [appA,hn,if_false,hc,List.length_nil,Nat.zero_add,Bool.true_and]
  have hlx:xs.length≤1073741824:=by simpa using hl
  simp only [hlx,hb,decide_true,Bool.and_self,if_true,unchunk,List.nil_append]
  refine q _ _ _ (.inr ⟨_,ds,rfl,?_,by simpa using d1⟩)
  rw [get_put,if_pos rfl]
 ·obtain ⟨cs',c1,c2,_,_⟩:=chunk_el he
  rw [hu] at c1;cases c1
  have h1:¬ (es.length+xs.length≤es.length):=by omega
  simp only [appA,hg,hn,if_false,true_and,Nat.zero_add]
  rw [if_pos (by omega)]
  simp only [h1,if_false,hl,hb,decide_true,Bool.true_and,beq_self_eq_true,Bool.not_true,Bool.and_false,Bool.false_eq_true,Bool.not_false,if_true]
  refine q _ _ _ (.inr ⟨e+1,cs++ds,by simp,?_,unchunk_append hu d1⟩)
  rw [get_put,if_pos rfl]
  simp [← c2]
end
section
variable {pg:Pg}
theorem c582 (hf:pg.fs 582=some cf582) (n:Int):Ret pg 582 [.int .i64 n] (.agg [.int .i64 n,.sl true [] true]):=by
 refine Ret.ofX hf ?_
 unfold cf582
 simp only [go_sem,seval]
theorem c599 (hf:pg.fs 599=some cf599) (s:Str):Ret pg 599 [.str s.bs] (varL s 0).av:=by
 refine Ret.ofX hf ?_
 unfold cf599
 simp only [go_sem,seval]
 first | rfl | simp [varL,oneS,Lin.avc,Coef.avc]
theorem c580 (h122:∀ i:Nat,i < 10→Ret pg 122 [.int .i64 i] (.str (loopN' i))) (h582:pg.fs 582=some cf582) (h599:pg.fs 599=some cf599) (hf:pg.fs 580=some cf580) (nl cl:Bool) (ds:List Lin) (hd:ds.length < 10) :
  RetP pg 580 [.sl nl (ds.map Lin.av) cl] (loopsR ds):=by
 have hb:ds.length≤big:=by simp only [big];omega
 refine RetP.ofX hf ?_
 unfold cf580
 simp only [go_sem,seval]
 refine XX_list ds (fun d r env hp=>∃ v1 v2,env=cf580E0 (.sl nl (ds.map Lin.av) cl) v1 v2 (.int .i64 d.length)∧Own hp 9 5 true v1 ((loopsP 0 d).map Loop.av)∧Own hp 17 2 true v2 ((atP 0 d).map Lin.av)) ?_ ?_ ?_
 ·exact ⟨_,_,rfl,Own.nil _ _ _ _ _ _ rfl,Own.nil _ _ _ _ _ _ rfl⟩
 ·rintro env hp ⟨v1,v2,rfl,o1,o2⟩
  simp only [cf580L0,cf580E0,ltSelf,go_sem,seval]
  obtain ⟨n1,c1,k1,s1,_⟩:=o1.snap (El.loops _) 61
  obtain ⟨n2,c2,k2,s2,_⟩:=o2.snap (El.lins _) 61
  exact ⟨_,conv_two' s1 s2,n1,c1,n2,c2,rfl⟩
 ·rintro d x r env hp hes ⟨v1,v2,rfl,o1,o2⟩
  obtain ⟨hget,e1,e2,ew⟩:=loopF hes hb
  have hi:d.length < 10:=by have:ds.length=d.length+(r.length+1):=by rw [hes];simp
                            omega
  clear hes
  simp only [cf580L0,cf580E0,e1,e2,hget,go_sem,seval]
  refine XO_tree (h122 d.length hi) (by simp only [go_sem,seval]) rfl ?_
  simp only [go_sem,seval]
  refine XO_tree (c582 h582 0) (by simp only [go_sem,seval]) rfl ?_
  simp only [hget,e2,Lin.avc,go_sem,seval]
  refine XO_ownS (kb:=0) (s:=9) o1 (El.loops _) (xs:=[(loopP d.length x).av]) (by intro y hy;simp at hy;subst hy;exact El.loop _) (by simp) (by simp [loopsP_len];omega) (by decide) ?_
  intro v1' e ob p1
  have o2':Own (hp.put (0+9) e ob) 17 2 true v2 ((atP 0 d).map Lin.av):=o2.mono (by rw [get_put,if_neg (by decide)])
  simp only [go_sem,seval]
  refine And.intro (by kernel_rfl) ?_
  refine XO_tree (c599 h599 (loopStr d.length)) (by simp only [go_sem,seval]) rfl ?_
  simp only [go_sem,seval]
  change Own (hp.put 9 e ob) 9 5 true v1' _ at p1
  change Own (hp.put 9 e ob) 17 2 true v2 _ at o2'
  generalize hp.put 9 e ob=H3 at p1 o2' ⊢
  refine XO_own (kb:=0) (s:=17) o2' (El.lins _) (xs:=[(varL (loopStr d.length) 0).av]) (by intro y hy;simp at hy;subst hy;exact El.lin _) (by simp [atP_len];omega) (by decide) ?_
  intro v2' rd2 pa2 p2 hk2 hpa2
  have p1':=p1.mono (hk2 9 (by decide))
  simp only [ew,go_sem,seval]
  refine ⟨v1',v2',rfl,?_,?_⟩
  ·rw [loopsP_snoc];simpa using p1'
  ·rw [atP_snoc];simpa using p2
theorem c600 (hf:pg.fs 600=some cf600) (l:Lin) (h54:Ret pg 54 [l.av] (.bool true)):Ret pg 600 [l.av] (.tup [l.av,.int .i64 0]):=by
 rw [Lin.avc] at h54
 refine Ret.ofX hf ?_
 unfold cf600
 simp only [go_sem,seval]
 refine XO_tree h54 (by simp only [go_sem,seval]) rfl ?_
 simp only [go_sem,seval]
 rw [Lin.avc]
theorem El.coefs (l:List Coef):∀ x∈l.map Coef.av,El 2 true x:=by
 intro y hy;obtain ⟨z,_,rfl⟩:=List.mem_map.1 hy;exact ⟨Coef.fits_av z,by simp only [go_sem,seval],by simp only [go_sem,seval]⟩
theorem conv_agg2 {h:Hp} {v t w:AV} {keys:List Nat} (hw:w.tree=true) (hs:snap 63 h v=some (t,keys)):conv h (.agg [w,v])=some (.agg [w,t]):=by
 have e2:snap 63 h w=some (w,[]):=by unfold snap;rw [if_pos hw]
 show (snap 64 h (.agg [w,v])).map (·.1)=_
 unfold snap
 split
 ·rename_i ht
  have hv:v.tree=true:=by simp only [AV.tree,treeL,Bool.and_eq_true,Bool.and_true] at ht;exact ht.2
  have e1:snap 63 h v=some (v,[]):=by unfold snap;rw [if_pos hv]
  rw [e1] at hs
  cases hs
  rfl
 ·simp only [mapS,hs,e2,Option.map_some,Option.map]
theorem c601 (hf:pg.fs 601=some cf601) (l x:Lin) (hx:x.ts.es=[]) (hc:wr .i64 (l.c+wr .i64 (1*x.c))=l.c+x.c):RetP pg 601 [l.av,x.av,.int .i64 1] (fun r=>∃ a:Sl Coef,a.es=l.ts.es∧r=(⟨l.c+x.c,a⟩:Lin).av):=by
 have hb:=l.ts.ok
 refine RetP.ofX hf ?_
 unfold cf601
 simp only [hc,go_sem,seval]
 refine XO_appNil (kb:=0) (s:=13) (xs:=l.ts.es.map Coef.av) (by intro y hy;obtain ⟨z,_,rfl⟩:=List.mem_map.1 hy;exact ⟨Coef.fits_av z,by simp only [go_sem,seval],by simp only [go_sem,seval]⟩) (by simp [big] at hb ⊢;omega) (by decide) (fun he=>?_) (fun hne cs hu=>?_)
 ·simp only [go_sem,seval]
  refine And.intro (by kernel_rfl) ?_
  rw [XX_loop]
  simp only [cf601L0,cf601M0,hx,go_sem,seval]
  have he':l.ts.es=[]:=by simpa using he
  exact ⟨⟨false,[],true,by simp [big]⟩,he'.symm,by rw [Lin.avc];rfl⟩
 ·simp only [go_sem,seval]
  refine And.intro (by kernel_rfl) ?_
  rw [XX_loop]
  simp only [cf601L0,cf601M0,hx,go_sem,seval]
  generalize hH:Hp.put _ 9 0 _=H
  have o:Own H 13 2 true (.rf 13 0 0 l.ts.es.length l.ts.es.length) (l.ts.es.map Coef.av):=.inr ⟨0,cs,by simp,by rw [← hH];simp only [go_sem,seval],hu⟩
  obtain ⟨n1,c1,k1,s1,_⟩:=o.snap (El.coefs _) 61
  exact ⟨_,conv_agg2 rfl s1,⟨n1,l.ts.es,c1,hb⟩,rfl,by rw [Lin.avc]⟩
theorem name_loop (i:Nat) (hi:i < 10):nameU (loopN' i)=true:=by
 have h:∀ j:Fin 10,nameU (loopN' j)=true:=by decide
 exact h ⟨i,hi⟩
theorem linOK_ahead (i:Nat) (hi:i < 10) (c:Int) (hc:c=0∨c = -1) (a:Sl Coef) (ha:a.es=[⟨loopStr i,1⟩]):linOK ⟨c,a⟩=true:=by
 have h:=name_loop i hi
 rcases hc with rfl | rfl<;>simp [linOK,ha,termsOK,loopStr,h,coefOK]
theorem c581 (hf:pg.fs 581=some cf581) (h601:pg.fs 601=some cf601) (h600:pg.fs 600=some cf600) (h54:∀ l:Lin,Ret pg 54 [l.av] (.bool (linOK l))) (i:Nat) (hi:i < 10) :
  RetP pg 581 [(varL (loopStr i) 0).av,.agg [.int .i64 (-1),.sl true [] true]] (fun r=>∃ a:Sl Coef,a.es=[⟨loopStr i,1⟩]∧r = .tup [(⟨-1,a⟩:Lin).av,.int .i64 0]):=by
 have a1:=h54 (varL (loopStr i) 0)
 have hv0:linOK (varL (loopStr i) 0)=true:=linOK_ahead i hi 0 (.inl rfl) _ rfl
 rw [hv0] at a1
 have a2:=h54 ⟨-1,nilS Coef⟩
 rw [show linOK ⟨-1,nilS Coef⟩=true from rfl] at a2
 obtain ⟨r,a3,a,ha,rfl⟩:=c601 h601 (varL (loopStr i) 0) ⟨-1,nilS Coef⟩ rfl rfl
 have ha':a.es=[⟨loopStr i,1⟩]:=ha
 have e0:(varL (loopStr i) 0).c+(⟨-1,nilS Coef⟩:Lin).c = -1:=rfl
 rw [e0] at a3
 have a4:=c600 h600 ⟨-1,a⟩ (by have:=h54 ⟨-1,a⟩;rwa [linOK_ahead i hi _ (.inr rfl) a ha'] at this)
 rw [Lin.avc] at a1 a2 a3 a4
 refine RetP.ofX hf ?_
 unfold cf581
 simp only [go_sem,seval]
 refine XO_tree a1 (by simp only [go_sem,seval]) rfl ?_
 simp only [go_sem,seval]
 refine XO_tree a2 (by simp only [go_sem,seval]) rfl ?_
 simp only [go_sem,seval]
 refine XO_tree a3 (by simp only [go_sem,seval]) rfl ?_
 simp only [go_sem,seval]
 refine XO_tree a4 (by simp only [go_sem,seval]) rfl ?_
 simp only [go_sem,seval]
 exact ⟨a,ha',by first | rfl | rw [Lin.avc]⟩
end
end Go.Tev
end
