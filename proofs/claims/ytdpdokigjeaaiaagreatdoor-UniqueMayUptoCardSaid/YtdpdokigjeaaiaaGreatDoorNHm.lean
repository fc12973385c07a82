import Derived.Test.YtdpdokigjeaaiaaGreatDoorNGm
set_option linter.all false
section
namespace Go.Tev
def putI (x:Int):List Int→List Int
 | []=>[x]
 | y :: r=>if decide (y < x) then y :: putI x r else if decide (y=x) then y :: r else x :: y :: r
theorem putI_app {x:Int}:∀ (d rest:List Int),(∀ y∈d,y < x)→putI x (d++rest)=d++putI x rest
 | [],rest,_=>rfl
 | y :: d,rest,h=>by
  have h1:y < x:=h y (by simp)
  simp only [List.cons_append,putI,h1,decide_true,if_true]
  rw [putI_app d rest (fun z hz=>h z (List.mem_cons_of_mem _ hz))]
theorem mem_putI {x a:Int}:∀ l:List Int,a∈putI x l↔a=x∨a∈l
 | []=>by simp [putI]
 | y :: r=>by
  simp only [putI]
  split
  ·simp only [List.mem_cons,mem_putI r]
   constructor<;>(intro h;rcases h with h | h | h<;>simp [h])
  ·split
   ·rename_i h;simp at h;subst h;simp
   ·simp
theorem putI_len (x:Int):∀ l:List Int,(putI x l).length≤l.length+1
 | []=>by simp [putI]
 | y :: r=>by
  have:=putI_len x r
  simp only [putI]
  split
  ·simp;omega
  ·split<;>simp
def IsL (l:List Int) (r:AV):Prop:=(∃ nl cl,r = .sl nl (l.map intA) cl)∨r = .os (l.map intA) 1 false
theorem IsL.of {l:List Int} {r:AV} (h:IsSl 1 false (l.map intA) r):IsL l r:=by
 rcases h with ⟨he,nl,cl,rfl,_⟩ | h
 ·exact .inl ⟨nl,cl,by rw [he]⟩
 ·exact .inr h
section
variable {pg:Pg}
def putP (kb:Nat) (h:Hp) (k1:Nat) (l:List Int) (r:AV) (h':Hp):Prop:=
 ∃ k2,Own h' k2 1 false r (l.map intA)∧(k2=k1∨k2=kb+5∨k2=kb+9)∧∀ k,k ≠ kb+1→k ≠ kb+5→k ≠ kb+9→h'.get k=h.get k
theorem own_at {h:Hp} {k e:Nat} {l:List Int} (hg:h.get k=some (e,.blk (l.map intA) 1 false false false)) {n:Nat} (hn:n=l.length):Own h k 1 false (.rf k e 0 n n) (l.map intA):=by
 subst hn
 exact .inr ⟨e,_,by simp,hg,unchunk_ints l⟩
theorem ints_cells (l:List Int):(l.map intA).all (fun v=>v.cells.length == 1)=true:=by
 rw [List.all_eq_true]
 intro x hx
 obtain ⟨y,_,rfl⟩:=List.mem_map.1 hx
 rfl
theorem slc_pre (nl cl:Bool) (d rest:List Int):∃ c,∀ h,f_slc h 1 false true false [.sl nl ((d++rest).map intA) cl,.int .i64 (d.length:Int)]=some (.sl nl (d.map intA) c,.pat [] []):=by
 refine ⟨(nl||cl)&&((d.length:Int) == ((((d++rest).map intA).length:Nat):Int)),fun h=>?_⟩
 simp only [f_slc,optI,sliceA,Bool.false_eq_true,if_false,if_true,Option.getD_none,Option.getD_some,ints_cells,Option.isSome_none]
 rw [if_pos ⟨by omega,by omega,by omega,by simp only [List.length_map,List.length_append];omega,trivial⟩]
 simp [val]
theorem slc_post (nl cl:Bool) (d rest:List Int):∃ c,∀ h,f_slc h 1 true false false [.sl nl ((d++rest).map intA) cl,.int .i64 (d.length:Int)]=some (.sl nl (rest.map intA) c,.pat [] []):=by
 refine ⟨(nl||cl)&&true,fun h=>?_⟩
 simp only [f_slc,optI,sliceA,Bool.false_eq_true,if_false,if_true,Option.getD_none,Option.getD_some,ints_cells,Option.isSome_none]
 rw [if_pos ⟨by omega,by simp only [List.length_map,List.length_append];omega,by omega,by omega,trivial⟩]
 have e:((d++rest).map intA).drop (d.length:Int).toNat=rest.map intA:=by
  rw [Int.toNat_natCast,List.map_append,List.drop_left' (by simp)]
 rw [e,List.take_of_length_le (by simp only [List.length_map,List.length_append];omega)]
 simp [val]
theorem allOne_ints:∀ l:List Int,allOne (l.map intA)=true
 | []=>rfl
 | x :: r=>by simp only [List.map_cons,allOne,allOne_ints r];rfl
theorem allOne_sub (l:List Int) (a b:Nat):allOne (((l.map intA).drop a).take b)=true:=by
 rw [← List.map_drop,← List.map_take];exact allOne_ints _
theorem slcr_lo {H:Hp} {k e:Nat} {cs:List AV} {ag ti fz:Bool} (hg:H.get k=some (e,.blk cs 1 ag ti fz)) {m n:Nat} (hm:m≤n) (hmx:ti=false) :
  f_slc H 1 false true false [.rf k e 0 n n,.int .i64 (m:Int)]=some (.rf k e 0 m n,.pat [k] []):=by
 subst hmx
 simp only [f_slc,optI,sliceA,Bool.false_eq_true,if_false,if_true,Option.getD_none,Option.getD_some,hg]
 rw [if_pos (by simp;omega)]
 simp
theorem slcr_hi {H:Hp} {k e:Nat} {cs:List AV} {ag fz:Bool} (hg:H.get k=some (e,.blk cs 1 ag false fz)) {m n:Nat} (hm:m < n) :
  f_slc H 1 true false false [.rf k e 0 n n,.int .i64 (m:Int)]=some (.rf k e m (n - m) (n - m),.pat [k] []):=by
 simp only [f_slc,optI,sliceA,Bool.false_eq_true,if_false,if_true,Option.getD_none,Option.getD_some,hg]
 rw [if_pos (by simp;omega)]
 rw [if_neg (by omega)]
 simp
theorem slcr_end {H:Hp} {k e:Nat} {cs:List AV} {ag fz:Bool} (hg:H.get k=some (e,.blk cs 1 ag false fz)) {n:Nat} (hn:n ≠ 0) :
  f_slc H 1 true false false [.rf k e 0 n n,.int .i64 (n:Int)]=some (.sl false [] false,.pat [k] []):=by
 simp only [f_slc,optI,sliceA,Bool.false_eq_true,if_false,if_true,Option.getD_none,Option.getD_some,hg]
 rw [if_neg (by rintro ⟨_,_,_,_,_,_,_,h | h | h⟩<;>first | omega | cases h),if_pos (by simp)]
theorem sc_rf {H:Hp} {k e:Nat} {l:List Int} {ag ti fz:Bool} (hg:H.get k=some (e,.blk (l.map intA) 1 ag ti fz)) {off m cap:Nat} (hm:off+m≤l.length) {xs:List Int} (hx:(l.drop off).take m=xs) :
  srcCells H 1 false (.rf k e off m cap)=some (xs.map intA,xs.length,[k]):=by
 subst hx
 simp only [srcCells,hg]
 rw [if_pos ⟨trivial,by simpa using hm,by simpa using allOne_sub l off m⟩]
 simp
 omega
theorem sc_sl {H:Hp} {nl cl:Bool} (xs:List Int):srcCells H 1 false (.sl nl (xs.map intA) cl)=some (xs.map intA,xs.length,[]):=by
 simp [srcCells,unchunk_ints]
theorem fa_new {H:Hp} {K:Nat} {src:AV} {xs:List Int} {rd:List Nat} (hs:srcCells H 1 false src=some (xs.map intA,xs.length,rd)) (hx:xs ≠ []) (hl:xs.length≤1073741824) :
  f_app H K 1 false 8 [.sl false [] true,src]=some (.rf K (H.next K) 0 xs.length xs.length,.pat (K :: rd) [⟨K,H.next K,.blk (xs.map intA) 1 false false false⟩]):=by
 have hn:xs.length ≠ 0:=by simpa using hx
 simp [f_app,hs,appA,hn,hl,unchunk]
theorem fa_nil {H:Hp} {K:Nat} {src:AV} {rd:List Nat} (hs:srcCells H 1 false src=some ([],0,rd)) :
  f_app H K 1 false 8 [.sl false [] true,src]=some (.sl false [] true,.pat rd []):=by
 simp [f_app,hs,appA]
theorem fa_rf {H:Hp} {K K1 e1:Nat} {es:List Int} (hg:H.get K1=some (e1,.blk (es.map intA) 1 false false false)) (hk:K1 ≠ K) {src:AV} {xs:List Int} {rd:List Nat} (hs:srcCells H 1 false src=some (xs.map intA,xs.length,rd)) (hx:xs ≠ [])
  (hl:es.length+xs.length≤1073741824) {n:Nat} (hn:n=es.length) :
  f_app H K 1 false 8 [.rf K1 e1 0 n n,src]=some (.rf K (H.next K) 0 (es.length+xs.length) (es.length+xs.length),.pat (K :: K1 :: rd) [⟨K1,e1,.dead⟩,⟨K,H.next K,.blk ((es++xs).map intA) 1 false false false⟩]):=by
 have hx0:xs.length ≠ 0:=by simpa using hx
 subst hn
 have h2:(K1 == K)=false:=by simpa using hk
 simp only [f_app,hs,appA,hg,hx0,if_false,true_and,Nat.zero_add,Nat.mul_one]
 rw [if_pos (by simp),if_neg (by omega)]
 simp only [hl,decide_true,Bool.true_and,h2,Bool.not_false,Bool.false_eq_true,if_false,show (8:Nat)≤65536 from by decide,if_true]
 have ht:List.take es.length (List.map intA es)=List.map intA es:=by rw [List.take_of_length_le (by simp)]
 simp [ht]
theorem fa_rf0 {H:Hp} {K K1 e1:Nat} {es:List Int} (hg:H.get K1=some (e1,.blk (es.map intA) 1 false false false)) {src:AV} {rd:List Nat} (hs:srcCells H 1 false src=some ([],0,rd)) {n:Nat} (hn:n=es.length) :
  f_app H K 1 false 8 [.rf K1 e1 0 n n,src]=some (.rf K1 e1 0 n n,.pat (K1 :: rd) []):=by
 subst hn
 simp only [f_app,hs,appA,hg]
 rw [if_pos (by simp)]
 simp
attribute [local go_sem] Nat.left_eq_add Nat.add_eq_left
theorem c55h {f:Nat} (hf:pg.fs f=some cf55) (kb:Nat) (h:Hp) (k1 e:Nat) (l:List Int) (hb:l.length < big) (x:Int) (hg:h.get k1=some (e,.blk (l.map intA) 1 false false false))
  (n1:(k1=kb+1)=False) (n5:(k1=kb+5)=False) (n9:(k1=kb+9)=False) (hne:l ≠ []) :
  RetHP pg f [.rf k1 e 0 l.length l.length,.int .i64 x] kb h (putP kb h k1 (putI x l)):=by
 have n1':(kb+1=k1)=False:=by rw [← n1];exact propext eq_comm
 have n5':(kb+5=k1)=False:=by rw [← n5];exact propext eq_comm
 have n9':(kb+9=k1)=False:=by rw [← n9];exact propext eq_comm
 refine RetHP.ofX hf ?_
 unfold cf55
 simp only [big] at hb
 simp only [go_sem,seval]
 refine XX_list l (fun d r env hp=>env=cf55E0 (.rf k1 e 0 l.length l.length) (.int .i64 x) (.int .i64 d.length)∧hp=h∧∀ y∈d,y < x) ?_ ?_ ?_
 ·exact ⟨rfl,rfl,by simp⟩
 ·rintro env hp ⟨rfl,rfl,hI⟩
  have s2:∀ H,srcCells H 1 false (.sl false [.int .i64 x] true)=some ([x].map intA,[x].length,[]):=fun H=>sc_sl [x]
  have s0:∀ H,srcCells H 1 false (.sl false [] false)=some ([],0,[]):=fun H=>sc_sl []
  have hl':l=l++[]:=by simp
  have hres:putI x l=l++[x]:=by
   have:=putI_app l [] hI
   rwa [List.append_nil] at this
  have hd0:l ≠ []:=hne
  have hlo:=slcr_lo (H:=hp) hg (m:=(l).length) (n:=l.length) (by omega) rfl
  simp only [cf55L0,cf55E0,↓hlo,go_sem,seval]
  have s1:=sc_rf (off:=0) (m:=(l).length) (cap:=l.length) (xs:=l) hg (by omega) (by rw [hl'];simp)
  rw [XO_app,fa_new s1 hd0 (by omega)]
  simp only [n1,n5,n9,n1',n5',n9',go_sem,seval]
  rw [XO_app,fa_rf (es:=l) (xs:=[x]) (by rw [get_put,if_pos rfl]) (by omega) (s2 _) (by simp) (by simp;omega) rfl]
  have hhi:∀ H:Hp,H.get k1=hp.get k1→f_slc H 1 true false false [.rf k1 e 0 l.length l.length,.int .i64 (l.length:Int)]=some (.sl false [] false,.pat [k1] []):=fun H h=>slcr_end (h.trans hg) (by simpa using hne)
  simp only [n1,n5,n9,n1',n5',n9',hg,↓hhi,go_sem,seval]
  rw [XO_app,fa_rf0 (es:=l++[x]) (by rw [get_put,if_pos rfl]) (s0 _) (by simp)]
  simp only [n1,n5,n9,n1',n5',n9',go_sem,seval]
  refine ⟨by simp [apartAll,apartFrom,R.apart,R.uses,X.tmp,Eff.apart,disj,n1,n5,n9,n1',n5',n9',Nat.testBit],?_⟩
  rw [hres]
  refine ⟨kb+5,own_at (by simp only [get_put,if_true,Nat.reduceEqDiff,Nat.left_eq_add,Nat.add_eq_left,if_false,List.nil_append,List.append_assoc,List.singleton_append,List.cons_append]) (by simp),by simp,?_⟩
  intro k q1 q5 q9
  simp only [get_put,Ne.symm q1,Ne.symm q5,Ne.symm q9,if_false]
 ·rintro d y r env hp hes ⟨rfl,rfl,hI⟩
  have hb':(d++y :: r).length < 16777216:=by rw [← hes];exact hb
  have hb2:(d++y :: r).length≤big:=by simp only [big];omega
  have hw:=wr_mid hb2
  have hget:l[d.length]?=some y:=by rw [hes];simp
  have hlt:d.length < l.length:=by rw [hes];simp
  have e1:decide ((d.length:Int) < (l.length:Int))=true:=by simp;omega
  have e2:((d.length:Int) < (l.length:Int))=True:=eq_true (by omega)
  cases hyx:decide (y < x)
  case true=>
   simp only [cf55L0,cf55E0,e1,e2,hg,Nat.mul_one,Nat.zero_add,hget,hyx,hw,go_sem,seval]
   refine ⟨rfl,?_⟩
   intro z hz
   rw [List.mem_append,List.mem_singleton] at hz
   rcases hz with hz | rfl
   ·exact hI z hz
   ·simpa using hyx
  case false=>
   have hp2:=putI_app d (y :: r) hI
   rw [← hes] at hp2
   have hp3:putI x (y :: r)=if decide (y=x) then y :: r else x :: y :: r:=by rw [putI,hyx];rfl
   cases hye:decide (y=x)
   case true=>
    have hres:putI x l=l:=by rw [hp2,hp3,hye,hes];rfl
    simp only [cf55L0,cf55E0,e1,e2,hg,Nat.mul_one,Nat.zero_add,hget,hyx,hye,go_sem,seval]
    rw [hres]
    exact ⟨k1,own_at hg rfl,.inl rfl,fun _ _ _ _=>rfl⟩
   case false=>
    have hres:putI x l=d++x :: y :: r:=by rw [hp2,hp3,hye];rfl
    have hl':l=d++(y :: r):=hes
    have s2:∀ H,srcCells H 1 false (.sl false [.int .i64 x] true)=some ([x].map intA,[x].length,[]):=fun H=>sc_sl [x]
    have s0:∀ H,srcCells H 1 false (.sl false [] false)=some ([],0,[]):=fun H=>sc_sl []
    have hll:l.length=d.length+(r.length+1):=by rw [hes];simp
    rcases List.eq_nil_or_concat d with hdn | ⟨d1,d2,hdc⟩
    ·subst hdn
     have e1:decide ((0:Int) < (l.length:Int))=true:=by simp;omega
     have e2:((0:Int) < (l.length:Int))=True:=eq_true (by omega)
     have hget:l[0]?=some y:=by rw [hes];simp
     have hlo:f_slc hp 1 false true false [.rf k1 e 0 l.length l.length,.int .i64 0]=some (.rf k1 e 0 0 l.length,.pat [k1] []):=slcr_lo (H:=hp) hg (m:=0) (n:=l.length) (by omega) rfl
     simp only [cf55L0,cf55E0,e1,e2,hg,Nat.mul_one,Nat.zero_add,hget,hyx,hye,↓hlo,go_sem,seval]
     have s1:=sc_rf (off:=0) (m:=0) (cap:=l.length) (xs:=[]) hg (by omega) (by simp)
     rw [XO_app,fa_nil s1]
     simp only [n1,n5,n9,n1',n5',n9',go_sem,seval]
     rw [XO_app,fa_new (xs:=[x]) (s2 _) (by simp) (by simp)]
     have hhi:∀ H:Hp,H.get k1=hp.get k1→f_slc H 1 true false false [.rf k1 e 0 l.length l.length,.int .i64 0]=some (.rf k1 e 0 (l.length - 0) (l.length - 0),.pat [k1] []):=fun H h=>slcr_hi (h.trans hg) (by omega)
     simp only [n1,n5,n9,n1',n5',n9',hg,↓hhi,go_sem,seval]
     have s3:∀ H:Hp,H.get k1=hp.get k1→srcCells H 1 false (.rf k1 e 0 (l.length - 0) (l.length - 0))=some (((y :: r)).map intA,((y :: r)).length,[k1]):=fun H h=>sc_rf (h.trans hg) (by omega) (by rw [hl'];simp)
     rw [XO_app,fa_rf (es:=[x]) (xs:=(y :: r)) (by rw [get_put,if_pos rfl];rfl) (by omega) (s3 _ (by simp only [get_put,n1',n5',n9',if_false])) (by simp) (by simp;omega) (by simp)]
     simp only [n1,n5,n9,n1',n5',n9',go_sem,seval]
     refine ⟨by simp [apartAll,apartFrom,R.apart,R.uses,X.tmp,Eff.apart,disj,n1,n5,n9,n1',n5',n9',Nat.testBit],?_⟩
     rw [hres]
     refine ⟨kb+9,own_at (by simp only [get_put,if_true,Nat.reduceEqDiff,Nat.left_eq_add,Nat.add_eq_left,if_false,List.nil_append,List.append_assoc,List.singleton_append,List.cons_append];rfl) (by simp;omega),by simp,?_⟩
     intro k q1 q5 q9
     simp only [get_put,Ne.symm q1,Ne.symm q5,Ne.symm q9,if_false]
    ·have hd0:d ≠ []:=by rw [hdc];simp
     have hlo:=slcr_lo (H:=hp) hg (m:=(d).length) (n:=l.length) (by omega) rfl
     simp only [cf55L0,cf55E0,e1,e2,hg,Nat.mul_one,Nat.zero_add,hget,hyx,hye,↓hlo,go_sem,seval]
     have s1:=sc_rf (off:=0) (m:=(d).length) (cap:=l.length) (xs:=d) hg (by omega) (by rw [hl'];simp)
     rw [XO_app,fa_new s1 hd0 (by omega)]
     simp only [n1,n5,n9,n1',n5',n9',go_sem,seval]
     rw [XO_app,fa_rf (es:=d) (xs:=[x]) (by rw [get_put,if_pos rfl]) (by omega) (s2 _) (by simp) (by simp;omega) rfl]
     have hhi:∀ H:Hp,H.get k1=hp.get k1→f_slc H 1 true false false [.rf k1 e 0 l.length l.length,.int .i64 ((((d).length):Nat):Int)]=some (.rf k1 e (d).length (l.length - (d).length) (l.length - (d).length),.pat [k1] []):=fun H h=>slcr_hi (h.trans hg) (by omega)
     simp only [n1,n5,n9,n1',n5',n9',hg,↓hhi,go_sem,seval]
     have s3:∀ H:Hp,H.get k1=hp.get k1→srcCells H 1 false (.rf k1 e (d).length (l.length - (d).length) (l.length - (d).length))=some (((y :: r)).map intA,((y :: r)).length,[k1]):=fun H h=>sc_rf (h.trans hg) (by omega) (by rw [hl'];simp)
     rw [XO_app,fa_rf (es:=d++[x]) (xs:=(y :: r)) (by rw [get_put,if_pos rfl]) (by omega) (s3 _ (by simp only [get_put,n1',n5',n9',if_false])) (by simp) (by simp;omega) (by simp)]
     simp only [n1,n5,n9,n1',n5',n9',go_sem,seval]
     refine ⟨by simp [apartAll,apartFrom,R.apart,R.uses,X.tmp,Eff.apart,disj,n1,n5,n9,n1',n5',n9',Nat.testBit],?_⟩
     rw [hres]
     refine ⟨kb+9,own_at (by simp only [get_put,if_true,Nat.reduceEqDiff,Nat.left_eq_add,Nat.add_eq_left,if_false,List.nil_append,List.append_assoc,List.singleton_append,List.cons_append]) (by simp;omega),by simp,?_⟩
     intro k q1 q5 q9
     simp only [get_put,Ne.symm q1,Ne.symm q5,Ne.symm q9,if_false]
theorem c55n {f:Nat} (hf:pg.fs f=some cf55) (kb:Nat) (h:Hp) (k1:Nat) (nl cl:Bool) (x:Int) :
  RetHP pg f [.sl nl [] cl,.int .i64 x] kb h (putP kb h k1 [x]):=by
 have s2:∀ H,srcCells H 1 false (.sl false [.int .i64 x] true)=some ([x].map intA,[x].length,[]):=fun H=>sc_sl [x]
 have s0:∀ H nl cl,srcCells H 1 false (.sl nl [] cl)=some ([],0,[]):=fun H nl cl=>by simp [srcCells,unchunk]
 obtain ⟨c1,q1⟩:=slc_pre nl cl [] []
 obtain ⟨c2,q2⟩:=slc_post nl cl [] []
 simp only [List.append_nil,List.map_nil,List.length_nil,Int.natCast_zero] at q1 q2
 refine RetHP.ofX hf ?_
 unfold cf55
 simp only [go_sem,seval]
 rw [XX_loop]
 simp only [cf55L0,cf55M0,Tev.clear,↓q1,go_sem,seval]
 rw [XO_app,fa_nil (s0 _ _ _)]
 simp only [go_sem,seval]
 rw [XO_app,fa_new (xs:=[x]) (s2 _) (by simp) (by simp)]
 simp only [↓q2,go_sem,seval]
 rw [XO_app,fa_rf0 (es:=[x]) (by rw [get_put,if_pos rfl];rfl) (s0 _ _ _) (by simp)]
 simp only [go_sem,seval]
 refine ⟨by simp [apartAll,apartFrom,R.apart,R.uses,X.tmp,Eff.apart,disj,Nat.testBit],?_⟩
 refine ⟨kb+5,own_at (l:=[x]) (by rw [get_put,if_pos rfl];rfl) rfl,by simp,?_⟩
 intro k q1 q5 q9
 simp only [get_put,Ne.symm q5,if_false]
theorem c55e {f:Nat} (hf:pg.fs f=some cf55) (kb:Nat) (h:Hp) (k1 e:Nat) (x:Int) (hg:h.get k1=some (e,.blk [] 1 false false false))
  (n1:(k1=kb+1)=False) (n5:(k1=kb+5)=False) (n9:(k1=kb+9)=False) :
  RetHP pg f [.rf k1 e 0 0 0,.int .i64 x] kb h (putP kb h k1 [x]):=by
 have n1':(kb+1=k1)=False:=by rw [← n1];exact propext eq_comm
 have n5':(kb+5=k1)=False:=by rw [← n5];exact propext eq_comm
 have n9':(kb+9=k1)=False:=by rw [← n9];exact propext eq_comm
 have s2:∀ H,srcCells H 1 false (.sl false [.int .i64 x] true)=some ([x].map intA,[x].length,[]):=fun H=>sc_sl [x]
 have s0:∀ H:Hp,H.get k1=h.get k1→srcCells H 1 false (.rf k1 e 0 0 0)=some ([],0,[k1]):=fun H hh=>by simp [srcCells,hh,hg,allOne]
 have q1:∀ H:Hp,H.get k1=h.get k1→f_slc H 1 false true false [.rf k1 e 0 0 0,.int .i64 0]=some (.rf k1 e 0 0 0,.pat [k1] []):=fun H hh=>by simp [f_slc,optI,sliceA,hh,hg]
 have q2:∀ H:Hp,H.get k1=h.get k1→f_slc H 1 true false false [.rf k1 e 0 0 0,.int .i64 0]=some (.rf k1 e 0 0 0,.pat [k1] []):=fun H hh=>by simp [f_slc,optI,sliceA,hh,hg]
 refine RetHP.ofX hf ?_
 unfold cf55
 simp only [go_sem,seval]
 rw [XX_loop]
 simp only [cf55L0,cf55M0,Tev.clear,↓q1,go_sem,seval]
 rw [XO_app,fa_nil (s0 _ rfl)]
 simp only [go_sem,seval]
 rw [XO_app,fa_new (xs:=[x]) (s2 _) (by simp) (by simp)]
 simp only [n1,n5,n9,n1',n5',n9',↓q2,go_sem,seval]
 rw [XO_app,fa_rf0 (es:=[x]) (by rw [get_put,if_pos rfl];rfl) (s0 _ (by simp only [get_put,n1',n5',n9',if_false])) (by simp)]
 simp only [go_sem,seval]
 refine ⟨by simp [apartAll,apartFrom,R.apart,R.uses,X.tmp,Eff.apart,disj,Nat.testBit,n1,n5,n9,n1',n5',n9'],?_⟩
 refine ⟨kb+5,own_at (l:=[x]) (by rw [get_put,if_pos rfl];rfl) rfl,by simp,?_⟩
 intro k q1 q5 q9
 simp only [get_put,Ne.symm q5,if_false]
theorem c55o {f:Nat} (hf:pg.fs f=some cf55) {kb:Nat} {h:Hp} {k1:Nat} {v:AV} {l:List Int} (o:Own h k1 1 false v (l.map intA)) (hb:l.length < big) (x:Int) (n1:k1 ≠ kb+1) (n5:k1 ≠ kb+5) (n9:k1 ≠ kb+9) :
  RetHP pg f [v,.int .i64 x] kb h (putP kb h k1 (putI x l)):=by
 rcases o with ⟨he,nl,cl,rfl,_⟩ | ⟨e,cs,rfl,hg,hu⟩
 ·have:l=[]:=by simpa using he
  subst this
  exact c55n hf kb h k1 nl cl x
 ·rw [unchunk_ints] at hu
  cases hu
  by_cases hl:l=[]
  ·subst hl
   exact c55e hf kb h k1 e x hg (eq_false n1) (eq_false n5) (eq_false n9)
  ·have:=c55h hf kb h k1 e l hb x hg (eq_false n1) (eq_false n5) (eq_false n9) hl
   simpa using this
end
end Go.Tev
end
section
namespace Go.Tev
def putsI (acc l:List Int):List Int:=l.foldl (fun a x=>putI x a) acc
mutual
def readsR:Pull→List Int
 | .mk op _ value _ _ _ _ _ _ kids _=>readsRs (if decide (op.bs=[114,101,97,100]) then putI value [] else []) kids
def readsRs:List Int→List Pull→List Int
 | acc,[]=>acc
 | acc,p :: r=>readsRs (putsI acc (readsR p)) r
end
theorem readsR_eq (p:Pull):readsR p=readsRs (if decide (p.op.bs=[114,101,97,100]) then putI p.value [] else []) p.kids:=by cases p;rw [readsR];rfl
theorem putsI_len:∀ (l acc:List Int),(putsI acc l).length≤acc.length+l.length
 | [],acc=>by simp [putsI]
 | x :: r,acc=>by
  have h1:=putsI_len r (putI x acc)
  have h2:=putI_len x acc
  simp only [putsI,List.foldl_cons,List.length_cons] at *
  omega
theorem putsI_snoc (acc d:List Int) (x:Int):putsI acc (d++[x])=putI x (putsI acc d):=by simp [putsI]
theorem mem_putsI {a:Int}:∀ (l acc:List Int),a∈putsI acc l↔a∈acc∨a∈l
 | [],acc=>by simp [putsI]
 | x :: r,acc=>by
  have h1:=mem_putsI (a:=a) r (putI x acc)
  simp only [putsI,List.foldl_cons] at *
  rw [h1,mem_putI,List.mem_cons]
  constructor
  ·rintro ((h | h) | h)<;>simp [h]
  ·rintro (h | h | h)<;>simp [h]
theorem readsRs_snoc:∀ (d:List Pull) (acc:List Int) (x:Pull),readsRs acc (d++[x])=putsI (readsRs acc d) (readsR x)
 | [],acc,x=>by simp [readsRs]
 | y :: d,acc,x=>by simp only [List.cons_append,readsRs];exact readsRs_snoc d _ x
mutual
theorem readsR_len:∀ p:Pull,(readsR p).length≤p.sz
 | .mk op _ value _ _ _ _ _ _ kids _=>by
  have h:=readsRs_len kids (if decide (op.bs=[114,101,97,100]) then putI value [] else [])
  rw [readsR,Pull.sz]
  split at h<;>simp_all [putI]<;>omega
theorem readsRs_len:∀ (l:List Pull) (acc:List Int),(readsRs acc l).length≤acc.length+Pull.szL l
 | [],acc=>by simp [readsRs]
 | p :: r,acc=>by
  have h1:=readsR_len p
  have h2:=readsRs_len r (putsI acc (readsR p))
  have h3:=putsI_len (readsR p) acc
  simp only [readsRs,Pull.szL] at *
  omega
end
mutual
theorem mem_readsR (a:Int):∀ p:Pull,a∈readsR p↔a∈readsU p
 | .mk op _ value _ _ _ _ _ _ kids _=>by
  have h:=mem_readsRs a kids (if decide (op.bs=[114,101,97,100]) then putI value [] else [])
  rw [readsR,readsU,h,List.mem_append]
  cases decide (op.bs=[114,101,97,100])<;>simp [putI]
theorem mem_readsRs (a:Int):∀ (l:List Pull) (acc:List Int),a∈readsRs acc l↔a∈acc∨a∈readsL l
 | [],acc=>by simp [readsRs,readsL]
 | p :: r,acc=>by
  have h1:=mem_readsR a p
  have h2:=mem_readsRs a r (putsI acc (readsR p))
  rw [readsRs,h2,mem_putsI,h1,readsL,List.mem_append,or_assoc]
end
def refsR (q:Kernel):List Int:=
 if decide (q.kind=3) then
  (let l:=putsI (readsR q.body) (readsR q.index)
   if decide (q.source=q.value) then l else putI q.source l)
 else readsR q.body
section
variable {pg:Pg}
theorem baseOf_put (s:Nat) (v:AV) (x:Int):∃ B,baseOf 0 s [v,.int .i64 x]=B∧65536≤B∧∀ k e o l c,v = .rf k e o l c→k ≠ B+1∧k ≠ B+5∧k ≠ B+9:=by
 refine ⟨_,rfl,?_,?_⟩
 ·simp only [baseOf];split<;>omega
 ·rintro k e o l c rfl
  simp only [baseOf,List.any_cons,List.any_nil,Bool.or_false]
  split
  ·rename_i h
   simp only [Bool.and_eq_true,decide_eq_true_eq] at h
   omega
  ·rename_i h
   simp only [Bool.and_eq_true,decide_eq_true_eq,not_and] at h
   omega
theorem XO_put {f s:Nat} {h:Hp} {k1:Nat} {v:AV} {l:List Int} {x:Int} {Q:AV→Eff→Prop} {t:Tok Q} (hf:pg.fs f=some cf55) (o:Own h k1 1 false v (l.map intA)) (hb:l.length < big)
  (q:∀ r h' k2,Own h' k2 1 false r ((putI x l).map intA)→(∀ k,k < 65536→h'.get k=h.get k)→Q r (.whole h')):XO pg 0 (.call f false true) s h [v,.int .i64 x] Q t:=by
 obtain ⟨B,hB,hB1,hB2⟩:=baseOf_put s v x
 have key:∃ k1,Own h k1 1 false v (l.map intA)∧k1 ≠ B+1∧k1 ≠ B+5∧k1 ≠ B+9:=by
  rcases o with ⟨he,nl,cl,rfl,hc⟩ | ⟨e,cs,rfl,hg,hu⟩
  ·exact ⟨B,.inl ⟨he,nl,cl,rfl,hc⟩,by omega,by omega,by omega⟩
  ·exact ⟨k1,.inr ⟨e,cs,rfl,hg,hu⟩,hB2 _ _ _ _ _ rfl⟩
 obtain ⟨k1',o',a1,a5,a9⟩:=key
 refine XO_callHP (.inl rfl) hB (c55o hf o' hb x a1 a5 a9) ?_
 rintro r h' ⟨k2,p1,_,p3⟩
 exact q r h' k2 p1 (fun k hk=>p3 k (by omega) (by omega) (by omega))
theorem c37 (hf:pg.fs 37=some cf37) (h55:pg.fs 55=some cf55):∀ p:Pull,p.ok→p.sz≤big→RetP pg 37 [p.av] (IsSl 1 false ((readsR p).map intA)):=by
 refine Pull.ind' fun p ih hp hsz=>?_
 obtain ⟨hb,hk⟩:=(Pull.ok_iff p).1 hp
 have hz:=Pull.sz_eq p
 refine RetP.ofX hf ?_
 unfold cf37
 simp only [go_sem,seval]
 cases hr:decide (p.op.bs=[114,101,97,100])
 case true=>
  simp only [go_sem,seval]
  refine XO_put (l:=[]) h55 (Own.nil _ 0 _ _ _ _ rfl) (by decide) ?_
  intro v H k1 ho hun
  simp only [go_sem,seval]
  have hres:readsR p=readsRs (putI p.value []) p.kids:=by rw [readsR_eq,hr];rfl
  refine XX_list p.kids (fun d r env hp=>∃ v k1,env=cf37E1 (.pt 1 0 0) v (.int .i64 d.length)∧Own hp k1 1 false v ((readsRs (putI p.value []) d).map intA)∧hp.get 1=some (0,.blk (pcell p p.kids) 9 true true false)) ?_ ?_ ?_
  ·exact ⟨v,k1,rfl,ho,(hun 1 (by decide)).trans (by simp only [go_sem,seval];rfl)⟩
  ·rintro env hp ⟨v,k1,rfl,ho,h1⟩
   simp only [pcell] at h1
   simp only [cf37L1,cf37E1,h1,go_sem,seval]
   rw [hres]
   exact ho.conv (El.ints _)
  ·rintro d x r env hp hes ⟨v,k1,rfl,ho,h1⟩
   have hxm:x∈p.kids:=by rw [hes];simp
   have hxs:x.sz≤big:=by have:=Pull.szL_mem hxm;omega
   have hx:=ih x hxm (hk x hxm) hxs
   have hx':=hx
   rw [Pull.avc] at hx'
   have hl1:=readsRs_len d (putI p.value [])
   have hl2:=readsR_len x
   have hst:(putI p.value []:List Int).length≤1:=by simp [putI]
   have hzz:Pull.szL p.kids=Pull.szL d+(x.sz+Pull.szL r):=by rw [hes,Pull.szL_append,Pull.szL]
   rw [hes] at h1 hb
   rw [hes]
   have h0:=h1
   simp only [pcell] at h1
   have hsno:=readsRs_snoc d (putI p.value []) x
   have hw:=wr_mid hb
   clear ih hk
   simp only [cf37L1,cf37E1,h1,go_sem,seval]
   first | refine XO_sl hx (by simp only [go_sem,seval]) ?_ | refine XO_sl hx' (by simp only [go_sem,seval]) ?_
   intro nl1 cl1 _
   simp only [go_sem,seval]
   refine XX_list (readsR x) (fun d2 r2 env hp=>∃ v k1,env=cf37E0 (.pt 1 0 0) v (.int .i64 d.length) (.sl nl1 ((readsR x).map intA) cl1) (.int .i64 d2.length)∧Own hp k1 1 false v ((putsI (readsRs (putI p.value []) d) d2).map intA)∧hp.get 1=some (0,.blk (pcell p (d++x :: r)) 9 true true false)) ?_ ?_ ?_
   ·exact ⟨v,k1,rfl,ho.mono (by simp only [go_sem,seval]),by simp only [go_sem,seval];exact h0⟩
   ·clear ho h1 h0 hp
    rintro env hp ⟨v,k1,rfl,ho,h0⟩
    simp only [cf37L0,cf37E0,hw,go_sem,seval]
    rw [hsno]
    exact ⟨v,k1,rfl,ho,h0⟩
   ·clear ho h1 h0 hp
    rintro d2 y r2 env hp hes2 ⟨v,k1,rfl,ho,h0⟩
    have hd2:d2.length < (readsR x).length:=by rw [hes2];simp
    have hget:(readsR x)[d2.length]?=some y:=by rw [hes2];simp
    have hpl:=putsI_len d2 (readsRs (putI p.value []) d)
    have hbb:(putsI (readsRs (putI p.value []) d) d2).length < big:=by omega
    have f1:decide ((d2.length:Int) < ((readsR x).length:Int))=true:=by simp;omega
    have f2:((d2.length:Int) < ((readsR x).length:Int))=True:=eq_true (by omega)
    have hw2:wr .i64 ((d2.length:Int)+1)=((d2++[y]).length:Int):=wr_mid (r:=r2) (by rw [← hes2];omega)
    have hsn2:=putsI_snoc (readsRs (putI p.value []) d) d2 y
    simp only [cf37L0,cf37E0,f1,f2,hget,go_sem,seval]
    refine XO_put h55 ho hbb ?_
    intro r' h' k2 ho' hun
    simp only [hw2,go_sem,seval]
    rw [hsn2]
    exact ⟨r',k2,rfl,ho',(hun 1 (by decide)).trans h0⟩
 case false=>
  simp only [go_sem,seval]
  have hres:readsR p=readsRs ([]) p.kids:=by rw [readsR_eq,hr];rfl
  refine XX_list p.kids (fun d r env hp=>∃ v k1,env=cf37E1 (.pt 1 0 0) v (.int .i64 d.length)∧Own hp k1 1 false v ((readsRs ([]) d).map intA)∧hp.get 1=some (0,.blk (pcell p p.kids) 9 true true false)) ?_ ?_ ?_
  ·exact ⟨_,0,rfl,Own.nil _ _ _ _ _ _ rfl,by simp only [go_sem,seval];rfl⟩
  ·rintro env hp ⟨v,k1,rfl,ho,h1⟩
   simp only [pcell] at h1
   simp only [cf37L1,cf37E1,h1,go_sem,seval]
   rw [hres]
   exact ho.conv (El.ints _)
  ·rintro d x r env hp hes ⟨v,k1,rfl,ho,h1⟩
   have hxm:x∈p.kids:=by rw [hes];simp
   have hxs:x.sz≤big:=by have:=Pull.szL_mem hxm;omega
   have hx:=ih x hxm (hk x hxm) hxs
   have hx':=hx
   rw [Pull.avc] at hx'
   have hl1:=readsRs_len d ([])
   have hl2:=readsR_len x
   have hst:([]:List Int).length≤1:=by simp [putI]
   have hzz:Pull.szL p.kids=Pull.szL d+(x.sz+Pull.szL r):=by rw [hes,Pull.szL_append,Pull.szL]
   rw [hes] at h1 hb
   rw [hes]
   have h0:=h1
   simp only [pcell] at h1
   have hsno:=readsRs_snoc d ([]) x
   have hw:=wr_mid hb
   clear ih hk
   simp only [cf37L1,cf37E1,h1,go_sem,seval]
   first | refine XO_sl hx (by simp only [go_sem,seval]) ?_ | refine XO_sl hx' (by simp only [go_sem,seval]) ?_
   intro nl1 cl1 _
   simp only [go_sem,seval]
   refine XX_list (readsR x) (fun d2 r2 env hp=>∃ v k1,env=cf37E0 (.pt 1 0 0) v (.int .i64 d.length) (.sl nl1 ((readsR x).map intA) cl1) (.int .i64 d2.length)∧Own hp k1 1 false v ((putsI (readsRs ([]) d) d2).map intA)∧hp.get 1=some (0,.blk (pcell p (d++x :: r)) 9 true true false)) ?_ ?_ ?_
   ·exact ⟨v,k1,rfl,ho.mono (by simp only [go_sem,seval]),by simp only [go_sem,seval];exact h0⟩
   ·clear ho h1 h0 hp
    rintro env hp ⟨v,k1,rfl,ho,h0⟩
    simp only [cf37L0,cf37E0,hw,go_sem,seval]
    rw [hsno]
    exact ⟨v,k1,rfl,ho,h0⟩
   ·clear ho h1 h0 hp
    rintro d2 y r2 env hp hes2 ⟨v,k1,rfl,ho,h0⟩
    have hd2:d2.length < (readsR x).length:=by rw [hes2];simp
    have hget:(readsR x)[d2.length]?=some y:=by rw [hes2];simp
    have hpl:=putsI_len d2 (readsRs ([]) d)
    have hbb:(putsI (readsRs ([]) d) d2).length < big:=by omega
    have f1:decide ((d2.length:Int) < ((readsR x).length:Int))=true:=by simp;omega
    have f2:((d2.length:Int) < ((readsR x).length:Int))=True:=eq_true (by omega)
    have hw2:wr .i64 ((d2.length:Int)+1)=((d2++[y]).length:Int):=wr_mid (r:=r2) (by rw [← hes2];omega)
    have hsn2:=putsI_snoc (readsRs ([]) d) d2 y
    simp only [cf37L0,cf37E0,f1,f2,hget,go_sem,seval]
    refine XO_put h55 ho hbb ?_
    intro r' h' k2 ho' hun
    simp only [hw2,go_sem,seval]
    rw [hsn2]
    exact ⟨r',k2,rfl,ho',(hun 1 (by decide)).trans h0⟩
end
end Go.Tev
end
section
namespace Go.Tev
section
variable {pg:Pg}
theorem c22 (hf:pg.fs 22=some cf22) (h37:∀ p:Pull,p.ok→p.sz≤big→RetP pg 37 [p.av] (IsSl 1 false ((readsR p).map intA))) (h38:pg.fs 38=some cf55) (q:Kernel) (h1:q.body.ok) (h2:q.index.ok) (hsz:q.body.sz+q.index.sz+1≤big) :
  RetP pg 22 [q.av] (IsSl 1 false ((refsR q).map intA)):=by
 have a1:=h37 q.body h1 (by omega)
 have a2:=h37 q.index h2 (by omega)
 rw [Pull.avc] at a1 a2
 have l1:=readsR_len q.body
 have l2:=readsR_len q.index
 refine RetP.ofX hf ?_
 unfold cf22
 simp only [go_sem,seval]
 refine XO_slO a1 (by simp only [go_sem,seval]) (El.ints _) ?_
 intro v rd pa ho hk _
 have k1:=hk 1 (by omega)
 simp only [go_sem,seval] at k1
 generalize hH:Eff.app _ (Eff.pat rd pa)=H at ho k1 ⊢
 clear hH hk
 simp only [k1,go_sem,seval]
 cases h3:decide (q.kind=3)
 ·simp only [go_sem,seval]
  have hr:refsR q=readsR q.body:=by simp [refsR,h3]
  rw [hr]
  exact ho.conv (El.ints _)
 ·simp only [k1,go_sem,seval]
  refine XO_sl a2 (by simp only [go_sem,seval]) ?_
  intro nl2 cl2 _
  simp only [go_sem,seval]
  obtain ⟨C,hC,k1⟩:∃ C,C=q.av.cells∧H.get 1=some (0,.blk C 24 true true false):=⟨_,(Kernel.cells_av q).symm,k1⟩
  refine XX_list (readsR q.index) (fun d r env hp=>∃ v k1,env=cf22E0 (.pt 1 0 0) v (.sl nl2 ((readsR q.index).map intA) cl2) (.int .i64 d.length)∧Own hp k1 1 false v ((putsI (readsR q.body) d).map intA)∧hp.get 1=some (0,.blk C 24 true true false)) ?_ ?_ ?_
  ·refine ⟨v,5,rfl,ho.mono ?_,?_⟩
   ·simp only [go_sem,seval]
   ·simp only [go_sem,seval]
    exact k1
  ·clear ho k1 a1 a2
   rintro env hp ⟨v,k2,rfl,ho,g1⟩
   have hr:refsR q=if decide (q.source=q.value) then putsI (readsR q.body) (readsR q.index) else putI q.source (putsI (readsR q.body) (readsR q.index)):=by simp [refsR,h3]
   have hpl:=putsI_len (readsR q.index) (readsR q.body)
   rw [hC,Kernel.cells_av] at g1
   simp only [cf22L0,cf22E0,g1,go_sem,seval]
   rw [hr]
   cases h4:decide (q.source=q.value)
   case true=>
    simp only [go_sem,seval]
    exact ho.conv (El.ints _)
   case false=>
    simp only [g1,go_sem,seval]
    refine XO_put h38 ho (by omega) ?_
    intro r' h' k3 ho' _
    simp only [go_sem,seval]
    exact ho'.conv (El.ints _)
  ·clear ho k1 a1 a2
   rintro d y r env hp hes ⟨v,k2,rfl,ho,g1⟩
   have hd2:d.length < (readsR q.index).length:=by rw [hes];simp
   have hget:(readsR q.index)[d.length]?=some y:=by rw [hes];simp
   have hpl:=putsI_len d (readsR q.body)
   have hbb:(putsI (readsR q.body) d).length < big:=by omega
   have f1:decide ((d.length:Int) < ((readsR q.index).length:Int))=true:=by simp;omega
   have f2:((d.length:Int) < ((readsR q.index).length:Int))=True:=eq_true (by omega)
   have hw2:wr .i64 ((d.length:Int)+1)=((d++[y]).length:Int):=wr_mid (r:=r) (by rw [← hes];omega)
   have hsn2:=putsI_snoc (readsR q.body) d y
   simp only [cf22L0,cf22E0,f1,f2,hget,go_sem,seval]
   refine XO_put h38 ho hbb ?_
   intro r' h' k3 ho' hun
   simp only [hw2,go_sem,seval]
   rw [hsn2]
   exact ⟨r',k3,rfl,ho',(hun 1 (by decide)).trans g1⟩
end
end Go.Tev
end
section
namespace Go.Tev
def refL (q:Kernel):List Int:=refsR q++[q.value]
theorem mem_refL {q:Kernel} {a:Int}:a∈refL q↔a∈readsK q∨a=q.value:=by
 have e1:∀ p,a∈readsV p↔a∈readsU p:=fun p=>by simp only [readsV,mem_compI,mem_sortI]
 simp only [refL,refsR,readsK,List.mem_append,List.mem_singleton]
 cases decide (q.kind=3)
 ·simp [mem_readsR,e1]
 ·cases hs:decide (q.source=q.value)
  ·simp only [if_true,Bool.false_eq_true,if_false,mem_putI,mem_putsI,mem_readsR,e1,List.mem_append,List.mem_singleton]
   constructor
   ·rintro ((h | h | h) | h)<;>simp [h]
   ·rintro ((h | h | h) | h)<;>simp [h]
  ·have hs':q.source=q.value:=by simpa using hs
   simp only [if_true,mem_putsI,mem_readsR,e1,List.mem_append,List.mem_singleton,hs']
   constructor
   ·rintro ((h | h) | h)<;>simp [h]
   ·rintro ((h | h | h) | h)<;>simp [h]
end Go.Tev
end
