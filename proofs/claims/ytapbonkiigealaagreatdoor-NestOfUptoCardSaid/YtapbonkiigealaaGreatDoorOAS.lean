import Derived.Test.YtapbonkiigealaaGreatDoorOAQ
import Derived.Test.YtapbonkiigealaaGreatDoorOAR
import Derived.Test.YtapbonkiigealaaGreatDoorOAN
import Derived.Test.YtapbonkiigealaaGreatDoorOAP
import Derived.Test.YtapbonkiigealaaGreatDoorOAO
import Derived.ChangeArms
import Derived.Lib.LaidTab
import Derived.Test.YtapbonkiigealaaGreatDoorRows
import Derived.Test.YtapbonkiigealaaGreatDoorOAL
set_option linter.all false
section
namespace Go.Tev
section
variable {pg:Pg}
end
end Go.Tev
end
section
namespace Go.Tev
section
variable {pg:Pg}
end
end Go.Tev
end
section
namespace Go.Tev
structure KOK (k:Kernels):Prop where
 nl:k.vars.nl=true→k.vars.es=[]
 ks:∀ q∈k.list.es,q.body.ok∧q.index.ok∧k.vars.es.length+9+q.body.sz≤big∧k.vars.es.length+9+q.index.sz≤big
 sz:∀ q∈k.list.es,q.body.sz+q.index.sz+2≤big
 sm:∀ q∈k.list.es,k.vars.es.length+q.body.sz+q.index.sz≤1048576
section
variable {pg:Pg}
end
end Go.Tev
end
section
namespace Go.Tev
structure Bulk {H:Type} (b:DataW H→Nat) (bs:List (DataW H)→Nat):Prop where
 nil:bs []=0
 cons:∀ x r,bs (x :: r)=b x+bs r
 sl:∀ e s,b (.slice e s)=bs e+bs s+1
 agg:∀ p,b (.agg p)=bs p+1
 str:∀ s,b (.lit (.string s))=s.length+1
 one:∀ d,1≤b d
theorem Bulk.sum {H:Type} {b:DataW H→Nat} {bs:List (DataW H)→Nat} (B:Bulk b bs):∀ l,bs l=(l.map b).sum
 | []=>by simp [B.nil]
 | x :: r=>by rw [B.cons,B.sum r];simp
theorem le_sum {l:List Nat}:∀ {i:Nat} {m:Nat},l[i]?=some m→m≤l.sum:=by
 induction l with
 | nil=>intro i m h;simp at h
 | cons x r ih=>
  intro i m h
  cases i with
  | zero=>simp at h;subst h;simp
  | succ i=>have:=ih (by simpa using h);simp;omega
theorem length_le_sum:∀ {l:List Nat},(∀ m∈l,1≤m)→l.length≤l.sum
 | [],_=>by simp
 | x :: r,h=>by
  have h1:=h x (by simp)
  have h2:=length_le_sum (l:=r) (fun m hm=>h m (List.mem_cons_of_mem _ hm))
  simp;omega
theorem exists_list {α : Type} {Pr:Nat → α → Prop}:∀ n,(∀ i,i < n→∃ x,Pr i x)→∃ l:List α,l.length=n∧∀ i x,l[i]?=some x→Pr i x
 | 0,_=>⟨[],rfl,fun i x h=>by simp at h⟩
 | n+1,h=>by
  obtain ⟨l,h1,h2⟩:=exists_list n (fun i hi=>h i (by omega))
  obtain ⟨x,hx⟩:=h n (by omega)
  refine ⟨l++[x],by simp [h1],fun i y hy=>?_⟩
  by_cases hi:i < l.length
  ·rw [List.getElem?_append_left hi] at hy;exact h2 i y hy
  ·rw [List.getElem?_append_right (by omega)] at hy
   have:i - l.length=0:=by
    rcases Nat.eq_zero_or_pos (i - l.length) with q | q
    ·exact q
    ·rw [List.getElem?_eq_none (by simp;omega)] at hy;cases hy
   rw [this] at hy
   simp at hy
   subst hy
   have:i=n:=by omega
   subst this
   exact hx
theorem All2.app {α β : Type} {R : α → β → Prop} {a b:List α} {c d:List β} (h1:All2 R a c) (h2:All2 R b d):All2 R (a++b) (c++d):=by
 induction h1 with
 | nil=>exact h2
 | cons h _ ih=>exact .cons h ih
theorem All2.mk_get {α β : Type} {R : α → β → Prop}:∀ {l:List α} {m:List β},l.length=m.length→(∀ (i:Nat) (x : α) (y : β),l[i]?=some x→m[i]?=some y→R x y)→All2 R l m
 | [],[],_,_ => .nil
 | x :: r,y :: s,hl,h => .cons (h 0 x y rfl rfl) (All2.mk_get (by simpa using hl) (fun i a b ha hb=>h (i+1) a b (by simpa using ha) (by simpa using hb)))
 | [],_ :: _,hl,_=>by simp at hl
 | _ :: _,[],hl,_=>by simp at hl
theorem All2.piece {α β : Type} {R : α → β → Prop} {a b:List α} {cs:List β} {o n:Nat} (h1:All2 R a ((cs.drop o).take n)) (h2:All2 R b (cs.drop (o+n))):All2 R (a++b) (cs.drop o):=by
 have:=h1.app h2
 rwa [← List.drop_drop,List.take_append_drop] at this
theorem All2.done {α β : Type} {R : α → β → Prop} {cs:List β} {o:Nat} (h:cs.length=o):All2 R [] (cs.drop o):=by
 subst h;simp;exact .nil
section
variable {H:Type} {enc:TypeId × Value→H} {P:Program} {w:World} {num:Nm} {ρ : Rho} {b:DataW H→Nat} {bs:List (DataW H)→Nat}
def noF (_:Nat):Prop:=False
def Rd (enc:TypeId × Value→H) (P:Program) (w:World) (num:Nm) (ρ : Rho) (b:DataW H→Nat) (N:Nat) (t:TypeId) {α : Type} (cells : α → List AV) (good : α → Nat→Prop):Prop:=
 ∀ fuel,fuel≤N→∀ cs d ps,DataW.trod enc P w 0 (fun _=>true) true fuel t cs=some (d,ps)→b d≤1048576→∃ x : α,All2 (Rv num ρ w noF) (cells x) cs∧good x (b d)
theorem Rd.int {N:Nat} {t:TypeId} (ht:P.underlying t=some (.int .i64)):Rd enc P w num ρ b N t (fun n:Int=>[intA n]) (fun _ _=>True):=by
 intro fuel hN cs d ps h _
 obtain ⟨n,rfl,_,_⟩:=DataW.trod_int ht h
 exact ⟨n,.cons (.int _ _) .nil,trivial⟩
theorem Rd.bool {N:Nat} {t:TypeId} (ht:P.underlying t=some .bool):Rd enc P w num ρ b N t (fun n:Bool=>[.bool n]) (fun _ _=>True):=by
 intro fuel hN cs d ps h _
 obtain ⟨n,rfl,_⟩:=DataW.trod_bool ht h
 exact ⟨n,.cons (.bool _) .nil,trivial⟩
theorem Rd.str {N:Nat} (B:Bulk b bs) {t:TypeId} (ht:P.underlying t=some .string):Rd enc P w num ρ b N t (fun s:Str=>[Str.av s]) (fun _ _=>True):=by
 intro fuel hN cs d ps h hb
 obtain ⟨s,rfl,hx,_⟩:=DataW.trod_string ht h
 cases hx
 rw [B.str] at hb
 have hl:s.data.toList.length≤big:=by simp only [big];omega
 refine ⟨⟨s.data.toList,hl⟩,.cons ?_ .nil,trivial⟩
 exact Rv.str (num:=num) (ρ := ρ) (w:=w) (F:=noF) s.data.toList
theorem cells_at {a:Addr} {n:Nat} {cs:List Value} (h:w.cells? 0 a n=some cs):cs.length=n∧∀ j,j < n→w.cell? (a.add j)=cs[j]?:=by
 simp only [World.cells?,Nat.zero_le,if_true] at h
 have hl:∀ (l:List Nat) (r:List Value),(l.mapM fun i=>w.cell? (a.add i))=some r→r.length=l.length∧∀ (j k:Nat),l[j]?=some k→w.cell? (a.add k)=r[j]?:=by
  intro l
  induction l with
  | nil=>intro r hr;simp at hr;subst hr;exact ⟨rfl,fun j k hk=>by simp at hk⟩
  | cons x l ih=>
   intro r hr
   simp only [List.mapM_cons,Option.bind_eq_bind,Option.bind_eq_some_iff,Option.pure_def,Option.some.injEq] at hr
   obtain ⟨v,hv,r',hr',rfl⟩:=hr
   obtain ⟨i1,i2⟩:=ih r' hr'
   refine ⟨by simp [i1],?_⟩
   intro j k hk
   cases j with
   | zero=>simp at hk;subst hk;simpa using hv
   | succ j=>simpa using i2 j k (by simpa using hk)
 obtain ⟨h1,h2⟩:=hl _ _ h
 rw [List.length_range] at h1
 exact ⟨h1,fun j hj=>h2 j j (by rw [List.getElem?_range hj])⟩
theorem add_zero' (a:Addr):a.add 0=a:=by simp [Addr.add]
theorem add_none (b off n:Nat):(Addr.add ⟨b,off,none⟩ n)=⟨b,off+n,none⟩:=by
 unfold Addr.add;split
 ·rename_i h0;simp [h0]
 ·rfl
theorem Rd.slice {N:Nat} (B:Bulk b bs) {t e:TypeId} {sz:Nat} {α : Type} {cells : α → List AV} {good : α → Nat→Prop} (enc1 : α → AV) (ht:P.underlying t=some (.slice e)) (hce:P.cellsOf e=sz) (hsz:0 < sz)
  (hcells:∀ x,(enc1 x).cells=cells x) (hlen:∀ x,(cells x).length=sz) (he:Rd enc P w num ρ b N e cells good) :
  Rd enc P w num ρ b (N+1) t (fun s:Sl α => [s.av enc1]) (fun s n=>(s.nl=true→s.es=[])∧∃ ms:List Nat,All2 good s.es ms∧ms.sum+1≤n∧∀ m∈ms,1≤m):=by
 intro fuel hN cs d ps h hb
 rcases DataW.trod_slice ht h with ⟨rfl,hx⟩ | ⟨a,len,cap,elems,rest,n,hfn,rfl,hx,_,hlc,hcm,hel,hes,_,_⟩
 ·cases hx
  exact ⟨⟨true,[],false,by simp⟩,.cons (.nsl _) .nil,fun _=>rfl,[],.nil,by simpa using B.one _,by simp⟩
 ·cases hx
  rw [B.sl,B.sum,B.sum] at hb ⊢
  rw [hce] at hes
  have hel':elems.length=len:=hel
  have key:∀ i,i < len→∃ x : α,∃ cs',w.cells? 0 (a.add (i*sz)) sz=some cs'∧All2 (Rv num ρ w noF) (cells x) cs'∧good x ((elems.map fun y=>b y.1).getD i 0):=by
   intro i hi
   have h1:=hes i hi
   rw [List.getElem?_eq_getElem (by omega),Option.bind_eq_some_iff] at h1
   obtain ⟨cs',h2,h3⟩:=h1
   have hm:((elems.map (·.1)).map b)[i]?=some (b (elems[i]'(by omega)).1):=by simp [List.getElem?_eq_getElem (show i < elems.length by omega)]
   have hle:=le_sum hm
   obtain ⟨x,h4,h5⟩:=he n (by omega) cs' (elems[i]'(by omega)).1 (elems[i]'(by omega)).2 h3 (by omega)
   refine ⟨x,cs',h2,h4,?_⟩
   rw [List.getD_eq_getElem?_getD]
   simpa [List.getElem?_eq_getElem (show i < elems.length by omega)] using h5
  obtain ⟨es,hesl,hese⟩:=exists_list len key
  have hbig:es.length≤big:=by
   have h1:((elems.map (·.1)).map b).length≤((elems.map (·.1)).map b).sum:=length_le_sum (fun m hm=>by
    obtain ⟨d,_,rfl⟩:=List.mem_map.1 hm
    exact B.one d)
   simp only [List.length_map] at h1
   simp only [big];omega
  refine ⟨⟨false,es,false,hbig⟩,.cons ?_ .nil,(by intro h;cases h),(elems.map fun y=>b y.1),?_,?_,?_⟩
  ·have hne:es ≠ []→a.spot=none:=by
    intro h0
    have hl0:0 < len:=by rw [← hesl];exact List.length_pos_iff.2 h0
    obtain ⟨x,cs',h1,_,_⟩:=key 0 hl0
    obtain ⟨c1,c2⟩:=cells_at h1
    have:=c2 0 hsz
    rw [Nat.zero_mul,add_zero',add_zero',List.getElem?_eq_getElem (by omega)] at this
    simp only [World.cell?] at this
    split at this
    ·cases hs:a.spot with
     | none=>rfl
     | some v=>rw [hs] at this;simp at this
    ·cases this
   obtain ⟨ab,ao,asp⟩:=a
   have hcell:∀ (i:Nat) (x : α),es[i]?=some x→∃ cs',cs'.length=sz∧All2 (Rv num ρ w noF) (cells x) cs'∧∀ j,j < sz→w.cell? ⟨ab,ao+(i*sz+j),none⟩=cs'[j]?:=by
    intro i x hx
    obtain ⟨cs',h1,h2,_⟩:=hese i x hx
    have hn0:es ≠ []:=by intro h;subst h;simp at hx
    have hsp:=hne hn0
    simp only at hsp
    subst hsp
    obtain ⟨c1,c2⟩:=cells_at h1
    refine ⟨cs',c1,h2,fun j hj=>?_⟩
    have:=c2 j hj
    rw [add_none,add_none,Nat.add_assoc] at this
    exact this
   have hmap:∀ (i:Nat) (e':AV),(es.map enc1)[i]?=some e'→∃ x : α,es[i]?=some x∧e'=enc1 x:=by
    intro i e' h
    rw [List.getElem?_map,Option.map_eq_some_iff] at h
    obtain ⟨x,h1,h2⟩:=h
    exact ⟨x,h1,h2.symm⟩
   have hv:(Value.slice (some ⟨ab,ao,asp⟩) len cap) = .slice (some ⟨ab,ao,asp⟩) (es.map enc1).length cap:=by rw [List.length_map,hesl]
   simp only [Sl.av]
   rw [hv]
   refine .sl (es.map enc1) false ab ao cap sz (fun k=>(w.cell? ⟨ab,ao+k,none⟩).getD undef) (by rw [List.length_map,hesl];exact hlc) (by intro h;cases h) ?_ ?_ ?_ ?_ asp ?_
   ·intro h0
    refine ⟨fun h=>h,?_⟩
    obtain ⟨e',r,hr⟩:=List.exists_cons_of_ne_nil h0
    obtain ⟨x,hx,_⟩:=hmap 0 e' (by rw [hr];rfl)
    obtain ⟨cs',c1,_,c3⟩:=hcell 0 x hx
    have h3:=c3 0 hsz
    rw [List.getElem?_eq_getElem (by omega)] at h3
    by_cases hlt:ab < w.heap.size
    ·exact hlt
    ·simp [World.cell?,Array.getElem?_eq_none (Nat.le_of_not_lt hlt)] at h3
   ·intro i e' h
    obtain ⟨x,_,rfl⟩:=hmap i e' h
    rw [hcells,hlen]
   ·intro k hk
    rw [List.length_map] at hk
    have hi:k / sz < es.length:=Nat.div_lt_of_lt_mul (by rw [Nat.mul_comm];exact hk)
    obtain ⟨cs',c1,_,c3⟩:=hcell (k / sz) _ (List.getElem?_eq_getElem hi)
    have hm:k % sz < sz:=Nat.mod_lt _ hsz
    have h3:=c3 (k % sz) hm
    have e1:k / sz*sz+k % sz=k:=by rw [Nat.mul_comm];exact Nat.div_add_mod k sz
    rw [e1,List.getElem?_eq_getElem (by omega)] at h3
    rw [h3];rfl
   ·intro i e' j y h hy
    obtain ⟨x,hx,rfl⟩:=hmap i e' h
    obtain ⟨cs',c1,c2,c3⟩:=hcell i x hx
    rw [hcells] at hy
    have hj:j < sz:=by
     have:=(List.getElem?_eq_some_iff.1 hy).1
     rw [hlen] at this;exact this
    rw [c3 j hj,List.getElem?_eq_getElem (by omega)]
    exact c2.get j y _ hy (List.getElem?_eq_getElem (by omega))
   ·intro h0
    refine hne ?_
    intro h;subst h;simp at h0
  ·refine All2.mk_get (by rw [hesl,List.length_map,hel']) ?_
   intro i x m hx hm
   obtain ⟨_,_,_,hg⟩:=hese i x hx
   rw [List.getD_eq_getElem?_getD,hm] at hg
   exact hg
  ·have:(elems.map fun y=>b y.1)=(elems.map (·.1)).map b:=by simp
   rw [this];omega
  ·intro m hm
   obtain ⟨y,_,rfl⟩:=List.mem_map.1 hm
   exact B.one _
theorem Rd.mono {N M:Nat} {t:TypeId} {α : Type} {cells : α → List AV} {good : α → Nat→Prop} (h:Rd enc P w num ρ b N t cells good) (hM:M≤N):Rd enc P w num ρ b M t cells good:=
 fun fuel hf=>h fuel (by omega)
theorem trod_fields {t:TypeId} {fs:Array Field} {L:List (TypeId × Nat)} {fuel:Nat} {cs:List Value} {x:DataW H × List MemPlace} (ht:P.underlying t=some (.struct fs)) (hL:fs.toList.map (fun f=>(f.type,f.offset))=L)
  (h:DataW.trod enc P w 0 (fun _=>true) true fuel t cs=some x) :
  ∃ (xs:List (DataW H × List MemPlace)) (n:Nat),fuel=n+1∧x.1 = .agg (xs.map (·.1))∧cs.length=P.cellsOf t∧xs.length=L.length ∧
   ∀ (i:Nat) (p:TypeId × Nat),L[i]?=some p→DataW.trod enc P w 0 (fun _=>true) true n p.1 ((cs.drop p.2).take (P.cellsOf p.1))=xs[i]?:=by
 obtain ⟨xs,n,h0,rfl,h1,h2,h3⟩:=DataW.trod_struct ht h
 subst hL
 refine ⟨xs,n,h0,rfl,h1,by simpa using h2,?_⟩
 intro i p hp
 rw [List.getElem?_map,Option.map_eq_some_iff] at hp
 obtain ⟨f,hf,rfl⟩:=hp
 exact h3 i f (by simpa using hf)
end
end Go.Tev
end
section
namespace Go.Tev
structure TyP (P:Program) (tI tS tB tCoef tLin tShape tTyp tStep tPull tKer tKers sCoef sLin sTyp sStep sPull sKer sInt sStr:TypeId):Prop where
 uI:P.underlying tI=some (.int .i64)
 uS:P.underlying tS=some .string
 uB:P.underlying tB=some .bool
 u_tCoef:∃ fs,P.underlying tCoef=some (.struct fs)∧fs.toList.map (fun f=>(f.type,f.offset))=[(tS,0),(tI,1)]
 u_tLin:∃ fs,P.underlying tLin=some (.struct fs)∧fs.toList.map (fun f=>(f.type,f.offset))=[(tI,0),(sCoef,1)]
 u_tShape:∃ fs,P.underlying tShape=some (.struct fs)∧fs.toList.map (fun f=>(f.type,f.offset))=[(tS,0),(sLin,1)]
 u_tTyp:∃ fs,P.underlying tTyp=some (.struct fs)∧fs.toList.map (fun f=>(f.type,f.offset))=[(tS,0),(tShape,1)]
 u_tStep:∃ fs,P.underlying tStep=some (.struct fs)∧fs.toList.map (fun f=>(f.type,f.offset))=[(tS,0),(tI,1),(sInt,2)]
 u_tPull:∃ fs,P.underlying tPull=some (.struct fs)∧fs.toList.map (fun f=>(f.type,f.offset))=[(tS,0),(tI,1),(tI,2),(tS,3),(sLin,4),(tB,5),(tI,6),(sStep,7),(sPull,8)]
 u_tKer:∃ fs,P.underlying tKer=some (.struct fs)∧fs.toList.map (fun f=>(f.type,f.offset))=[(tI,0),(tI,1),(sLin,2),(tPull,3),(sStep,12),(tI,13),(tPull,14),(tI,23)]
 u_tKers:∃ fs,P.underlying tKers=some (.struct fs)∧fs.toList.map (fun f=>(f.type,f.offset))=[(sStr,0),(sLin,1),(tI,2),(sTyp,3),(sKer,4),(sInt,5)]
 u_sCoef:P.underlying sCoef=some (.slice tCoef)
 u_sLin:P.underlying sLin=some (.slice tLin)
 u_sTyp:P.underlying sTyp=some (.slice tTyp)
 u_sStep:P.underlying sStep=some (.slice tStep)
 u_sPull:P.underlying sPull=some (.slice tPull)
 u_sKer:P.underlying sKer=some (.slice tKer)
 u_sInt:P.underlying sInt=some (.slice tI)
 u_sStr:P.underlying sStr=some (.slice tS)
 c_tI:P.cellsOf tI=1
 c_tS:P.cellsOf tS=1
 c_tB:P.cellsOf tB=1
 c_tCoef:P.cellsOf tCoef=2
 c_tLin:P.cellsOf tLin=2
 c_tShape:P.cellsOf tShape=2
 c_tTyp:P.cellsOf tTyp=3
 c_tStep:P.cellsOf tStep=3
 c_tPull:P.cellsOf tPull=9
 c_tKer:P.cellsOf tKer=24
 c_tKers:P.cellsOf tKers=6
 c_sCoef:P.cellsOf sCoef=1
 c_sLin:P.cellsOf sLin=1
 c_sTyp:P.cellsOf sTyp=1
 c_sStep:P.cellsOf sStep=1
 c_sPull:P.cellsOf sPull=1
 c_sKer:P.cellsOf sKer=1
 c_sInt:P.cellsOf sInt=1
 c_sStr:P.cellsOf sStr=1
section
variable {H:Type} {enc:TypeId × Value→H} {P:Program} {w:World} {num:Nm} {ρ : Rho} {b:DataW H→Nat} {bs:List (DataW H)→Nat} {tI tS tB tCoef tLin tShape tTyp tStep tPull tKer tKers sCoef sLin sTyp sStep sPull sKer sInt sStr:TypeId}
variable (B:Bulk b bs) (T:TyP P tI tS tB tCoef tLin tShape tTyp tStep tPull tKer tKers sCoef sLin sTyp sStep sPull sKer sInt sStr)
include B T
theorem rd_tCoef (N:Nat):Rd enc P w num ρ b N tCoef (fun x:Coef=>[Str.av x.v]++([intA x.c]++[])) (fun _ _=>True):=by
 intro fuel hN cs d ps h hb
 obtain ⟨fs,hu,hL⟩:=T.u_tCoef
 obtain ⟨xs,n,hn,hx,hcl,hl,hf⟩:=trod_fields hu hL h
 rw [T.c_tCoef] at hcl
 obtain ⟨y0,y1,rfl⟩:∃ y0 y1,xs=[y0,y1]:=by
  match xs,hl with
  | [y0,y1],_=>exact ⟨y0,y1,rfl⟩
 have hx':d = .agg [y0.1,y1.1]:=hx
 subst hx'
 rw [B.agg] at hb ⊢
 simp only [B.cons,B.nil] at hb ⊢
 have f0:_=some y0:=hf 0 (tS,0) rfl
 have f1:_=some y1:=hf 1 (tI,1) rfl
 simp only [T.c_tI,T.c_tS] at f0 f1
 obtain ⟨a0,p0,g0⟩:=(Rd.str (enc:=enc) (w:=w) (num:=num) (ρ := ρ) (N:=n) B T.uS) n (Nat.le_refl _) _ y0.1 y0.2 f0 (by omega)
 obtain ⟨a1,p1,g1⟩:=(Rd.int (enc:=enc) (w:=w) (num:=num) (ρ := ρ) (b:=b) (N:=n) T.uI) n (Nat.le_refl _) _ y1.1 y1.2 f1 (by omega)
 refine ⟨⟨a0,a1⟩,?_,trivial⟩
 have q:=(p0.piece (p1.piece (All2.done (by omega))))
 rw [List.drop_zero] at q
 exact q
theorem rd_sCoef (N:Nat):Rd enc P w num ρ b N sCoef (fun s:Sl Coef=>[s.av Coef.av]) (fun s n=>(s.nl=true→s.es=[])∧∃ ms:List Nat,All2 (fun _ _=>True) s.es ms∧ms.sum+1≤n∧∀ m∈ms,1≤m):=
 (Rd.slice B (N:=N) (sz:=2) Coef.av T.u_sCoef T.c_tCoef (by decide) (fun x=>rfl) (fun x=>rfl) (rd_tCoef B T N)).mono (Nat.le_succ N)
theorem rd_tLin (N:Nat):Rd enc P w num ρ b N tLin (fun x:Lin=>[intA x.c]++([x.ts.av Coef.av]++[])) (fun _ _=>True):=by
 intro fuel hN cs d ps h hb
 obtain ⟨fs,hu,hL⟩:=T.u_tLin
 obtain ⟨xs,n,hn,hx,hcl,hl,hf⟩:=trod_fields hu hL h
 rw [T.c_tLin] at hcl
 obtain ⟨y0,y1,rfl⟩:∃ y0 y1,xs=[y0,y1]:=by
  match xs,hl with
  | [y0,y1],_=>exact ⟨y0,y1,rfl⟩
 have hx':d = .agg [y0.1,y1.1]:=hx
 subst hx'
 rw [B.agg] at hb ⊢
 simp only [B.cons,B.nil] at hb ⊢
 have f0:_=some y0:=hf 0 (tI,0) rfl
 have f1:_=some y1:=hf 1 (sCoef,1) rfl
 simp only [T.c_sCoef,T.c_tI] at f0 f1
 obtain ⟨a0,p0,g0⟩:=(Rd.int (enc:=enc) (w:=w) (num:=num) (ρ := ρ) (b:=b) (N:=n) T.uI) n (Nat.le_refl _) _ y0.1 y0.2 f0 (by omega)
 obtain ⟨a1,p1,g1⟩:=(rd_sCoef (enc:=enc) (w:=w) (num:=num) (ρ := ρ) B T n) n (Nat.le_refl _) _ y1.1 y1.2 f1 (by omega)
 refine ⟨⟨a0,a1⟩,?_,trivial⟩
 have q:=(p0.piece (p1.piece (All2.done (by omega))))
 rw [List.drop_zero] at q
 exact q
theorem rd_sLin (N:Nat):Rd enc P w num ρ b N sLin (fun s:Sl Lin=>[s.av Lin.av]) (fun s n=>(s.nl=true→s.es=[])∧∃ ms:List Nat,All2 (fun _ _=>True) s.es ms∧ms.sum+1≤n∧∀ m∈ms,1≤m):=
 (Rd.slice B (N:=N) (sz:=2) Lin.av T.u_sLin T.c_tLin (by decide) (fun x=>rfl) (fun x=>rfl) (rd_tLin B T N)).mono (Nat.le_succ N)
theorem rd_tShape (N:Nat):Rd enc P w num ρ b N tShape (fun x:Shape=>[Str.av x.row]++([x.dims.av Lin.av]++[])) (fun _ _=>True):=by
 intro fuel hN cs d ps h hb
 obtain ⟨fs,hu,hL⟩:=T.u_tShape
 obtain ⟨xs,n,hn,hx,hcl,hl,hf⟩:=trod_fields hu hL h
 rw [T.c_tShape] at hcl
 obtain ⟨y0,y1,rfl⟩:∃ y0 y1,xs=[y0,y1]:=by
  match xs,hl with
  | [y0,y1],_=>exact ⟨y0,y1,rfl⟩
 have hx':d = .agg [y0.1,y1.1]:=hx
 subst hx'
 rw [B.agg] at hb ⊢
 simp only [B.cons,B.nil] at hb ⊢
 have f0:_=some y0:=hf 0 (tS,0) rfl
 have f1:_=some y1:=hf 1 (sLin,1) rfl
 simp only [T.c_sLin,T.c_tS] at f0 f1
 obtain ⟨a0,p0,g0⟩:=(Rd.str (enc:=enc) (w:=w) (num:=num) (ρ := ρ) (N:=n) B T.uS) n (Nat.le_refl _) _ y0.1 y0.2 f0 (by omega)
 obtain ⟨a1,p1,g1⟩:=(rd_sLin (enc:=enc) (w:=w) (num:=num) (ρ := ρ) B T n) n (Nat.le_refl _) _ y1.1 y1.2 f1 (by omega)
 refine ⟨⟨a0,a1⟩,?_,trivial⟩
 have q:=(p0.piece (p1.piece (All2.done (by omega))))
 rw [List.drop_zero] at q
 exact q
theorem rd_tTyp (N:Nat):Rd enc P w num ρ b N tTyp (fun x:Typ=>[Str.av x.elem]++(([Str.av x.shape.row]++([x.shape.dims.av Lin.av]++[]))++[])) (fun _ _=>True):=by
 intro fuel hN cs d ps h hb
 obtain ⟨fs,hu,hL⟩:=T.u_tTyp
 obtain ⟨xs,n,hn,hx,hcl,hl,hf⟩:=trod_fields hu hL h
 rw [T.c_tTyp] at hcl
 obtain ⟨y0,y1,rfl⟩:∃ y0 y1,xs=[y0,y1]:=by
  match xs,hl with
  | [y0,y1],_=>exact ⟨y0,y1,rfl⟩
 have hx':d = .agg [y0.1,y1.1]:=hx
 subst hx'
 rw [B.agg] at hb ⊢
 simp only [B.cons,B.nil] at hb ⊢
 have f0:_=some y0:=hf 0 (tS,0) rfl
 have f1:_=some y1:=hf 1 (tShape,1) rfl
 simp only [T.c_tS,T.c_tShape] at f0 f1
 obtain ⟨a0,p0,g0⟩:=(Rd.str (enc:=enc) (w:=w) (num:=num) (ρ := ρ) (N:=n) B T.uS) n (Nat.le_refl _) _ y0.1 y0.2 f0 (by omega)
 obtain ⟨a1,p1,g1⟩:=(rd_tShape (enc:=enc) (w:=w) (num:=num) (ρ := ρ) B T n) n (Nat.le_refl _) _ y1.1 y1.2 f1 (by omega)
 refine ⟨⟨a0,a1⟩,?_,trivial⟩
 have q:=(p0.piece (p1.piece (All2.done (by omega))))
 rw [List.drop_zero] at q
 exact q
theorem rd_sTyp (N:Nat):Rd enc P w num ρ b N sTyp (fun s:Sl Typ=>[s.av Typ.av]) (fun s n=>(s.nl=true→s.es=[])∧∃ ms:List Nat,All2 (fun _ _=>True) s.es ms∧ms.sum+1≤n∧∀ m∈ms,1≤m):=
 (Rd.slice B (N:=N) (sz:=3) Typ.av T.u_sTyp T.c_tTyp (by decide) (fun x=>rfl) (fun x=>rfl) (rd_tTyp B T N)).mono (Nat.le_succ N)
theorem rd_sInt (N:Nat):Rd enc P w num ρ b N sInt (fun s:Sl Int=>[s.av intA]) (fun s n=>(s.nl=true→s.es=[])∧∃ ms:List Nat,All2 (fun _ _=>True) s.es ms∧ms.sum+1≤n∧∀ m∈ms,1≤m):=
 (Rd.slice B (N:=N) (sz:=1) intA T.u_sInt T.c_tI (by decide) (fun x=>rfl) (fun x=>rfl) (Rd.int T.uI)).mono (Nat.le_succ N)
theorem rd_sStr (N:Nat):Rd enc P w num ρ b N sStr (fun s:Sl Str=>[s.av Str.av]) (fun s n=>(s.nl=true→s.es=[])∧∃ ms:List Nat,All2 (fun _ _=>True) s.es ms∧ms.sum+1≤n∧∀ m∈ms,1≤m):=
 (Rd.slice B (N:=N) (sz:=1) Str.av T.u_sStr T.c_tS (by decide) (fun x=>rfl) (fun x=>rfl) (Rd.str B T.uS)).mono (Nat.le_succ N)
theorem rd_tStep (N:Nat):Rd enc P w num ρ b N tStep (fun x:Step=>[Str.av x.op]++([intA x.num]++([x.args.av intA]++[]))) (fun _ _=>True):=by
 intro fuel hN cs d ps h hb
 obtain ⟨fs,hu,hL⟩:=T.u_tStep
 obtain ⟨xs,n,hn,hx,hcl,hl,hf⟩:=trod_fields hu hL h
 rw [T.c_tStep] at hcl
 obtain ⟨y0,y1,y2,rfl⟩:∃ y0 y1 y2,xs=[y0,y1,y2]:=by
  match xs,hl with
  | [y0,y1,y2],_=>exact ⟨y0,y1,y2,rfl⟩
 have hx':d = .agg [y0.1,y1.1,y2.1]:=hx
 subst hx'
 rw [B.agg] at hb ⊢
 simp only [B.cons,B.nil] at hb ⊢
 have f0:_=some y0:=hf 0 (tS,0) rfl
 have f1:_=some y1:=hf 1 (tI,1) rfl
 have f2:_=some y2:=hf 2 (sInt,2) rfl
 simp only [T.c_sInt,T.c_tI,T.c_tS] at f0 f1 f2
 obtain ⟨a0,p0,g0⟩:=(Rd.str (enc:=enc) (w:=w) (num:=num) (ρ := ρ) (N:=n) B T.uS) n (Nat.le_refl _) _ y0.1 y0.2 f0 (by omega)
 obtain ⟨a1,p1,g1⟩:=(Rd.int (enc:=enc) (w:=w) (num:=num) (ρ := ρ) (b:=b) (N:=n) T.uI) n (Nat.le_refl _) _ y1.1 y1.2 f1 (by omega)
 obtain ⟨a2,p2,g2⟩:=(rd_sInt (enc:=enc) (w:=w) (num:=num) (ρ := ρ) B T n) n (Nat.le_refl _) _ y2.1 y2.2 f2 (by omega)
 refine ⟨⟨a0,a1,a2⟩,?_,trivial⟩
 have q:=(p0.piece (p1.piece (p2.piece (All2.done (by omega)))))
 rw [List.drop_zero] at q
 exact q
theorem rd_sStep (N:Nat):Rd enc P w num ρ b N sStep (fun s:Sl Step=>[s.av Step.av]) (fun s n=>(s.nl=true→s.es=[])∧∃ ms:List Nat,All2 (fun _ _=>True) s.es ms∧ms.sum+1≤n∧∀ m∈ms,1≤m):=
 (Rd.slice B (N:=N) (sz:=3) Step.av T.u_sStep T.c_tStep (by decide) (fun x=>rfl) (fun x=>rfl) (rd_tStep B T N)).mono (Nat.le_succ N)
omit B T in
theorem sum_sz:∀ {l:List Pull} {ms:List Nat},All2 (fun (p:Pull) n=>p.ok∧p.sz≤n) l ms→(∀ p∈l,p.ok)∧Pull.szL l≤ms.sum
 | _,_,.nil=>⟨by simp,by simp [Pull.szL]⟩
 | _,_,.cons h r=>by
  obtain ⟨h1,h2⟩:=sum_sz r
  refine ⟨?_,by simp [Pull.szL];omega⟩
  intro p hp
  rcases List.mem_cons.1 hp with rfl | hp
  ·exact h.1
  ·exact h1 p hp
theorem rd_tPull1 (N:Nat) (hs:∀ n,n+1≤N→Rd enc P w num ρ b n sPull (fun s:Sl Pull=>[s.av Pull.av]) (fun s n=>(s.nl=true→s.es=[])∧∃ ms:List Nat,All2 (fun (p:Pull) n=>p.ok∧p.sz≤n) s.es ms∧ms.sum+1≤n∧∀ m∈ms,1≤m)):Rd enc P w num ρ b N tPull (fun x:Pull=>[Str.av x.op]++([intA x.num]++([intA x.value]++([Str.av x.name]++([x.at_.av Lin.av]++([.bool x.dyn]++([intA x.check]++([x.fn.av Step.av]++([x.kav]++[]))))))))) (fun p n=>p.ok∧p.sz≤n):=by
 intro fuel hN cs d ps h hb
 obtain ⟨fs,hu,hL⟩:=T.u_tPull
 obtain ⟨xs,n,hn,hx,hcl,hl,hf⟩:=trod_fields hu hL h
 rw [T.c_tPull] at hcl
 obtain ⟨y0,y1,y2,y3,y4,y5,y6,y7,y8,rfl⟩:∃ y0 y1 y2 y3 y4 y5 y6 y7 y8,xs=[y0,y1,y2,y3,y4,y5,y6,y7,y8]:=by
  match xs,hl with
  | [y0,y1,y2,y3,y4,y5,y6,y7,y8],_=>exact ⟨y0,y1,y2,y3,y4,y5,y6,y7,y8,rfl⟩
 have hx':d = .agg [y0.1,y1.1,y2.1,y3.1,y4.1,y5.1,y6.1,y7.1,y8.1]:=hx
 subst hx'
 rw [B.agg] at hb ⊢
 simp only [B.cons,B.nil] at hb ⊢
 have f0:_=some y0:=hf 0 (tS,0) rfl
 have f1:_=some y1:=hf 1 (tI,1) rfl
 have f2:_=some y2:=hf 2 (tI,2) rfl
 have f3:_=some y3:=hf 3 (tS,3) rfl
 have f4:_=some y4:=hf 4 (sLin,4) rfl
 have f5:_=some y5:=hf 5 (tB,5) rfl
 have f6:_=some y6:=hf 6 (tI,6) rfl
 have f7:_=some y7:=hf 7 (sStep,7) rfl
 have f8:_=some y8:=hf 8 (sPull,8) rfl
 simp only [T.c_sLin,T.c_sPull,T.c_sStep,T.c_tB,T.c_tI,T.c_tS] at f0 f1 f2 f3 f4 f5 f6 f7 f8
 obtain ⟨a0,p0,g0⟩:=(Rd.str (enc:=enc) (w:=w) (num:=num) (ρ := ρ) (N:=n) B T.uS) n (Nat.le_refl _) _ y0.1 y0.2 f0 (by omega)
 obtain ⟨a1,p1,g1⟩:=(Rd.int (enc:=enc) (w:=w) (num:=num) (ρ := ρ) (b:=b) (N:=n) T.uI) n (Nat.le_refl _) _ y1.1 y1.2 f1 (by omega)
 obtain ⟨a2,p2,g2⟩:=(Rd.int (enc:=enc) (w:=w) (num:=num) (ρ := ρ) (b:=b) (N:=n) T.uI) n (Nat.le_refl _) _ y2.1 y2.2 f2 (by omega)
 obtain ⟨a3,p3,g3⟩:=(Rd.str (enc:=enc) (w:=w) (num:=num) (ρ := ρ) (N:=n) B T.uS) n (Nat.le_refl _) _ y3.1 y3.2 f3 (by omega)
 obtain ⟨a4,p4,g4⟩:=(rd_sLin (enc:=enc) (w:=w) (num:=num) (ρ := ρ) B T n) n (Nat.le_refl _) _ y4.1 y4.2 f4 (by omega)
 obtain ⟨a5,p5,g5⟩:=(Rd.bool (enc:=enc) (w:=w) (num:=num) (ρ := ρ) (b:=b) (N:=n) T.uB) n (Nat.le_refl _) _ y5.1 y5.2 f5 (by omega)
 obtain ⟨a6,p6,g6⟩:=(Rd.int (enc:=enc) (w:=w) (num:=num) (ρ := ρ) (b:=b) (N:=n) T.uI) n (Nat.le_refl _) _ y6.1 y6.2 f6 (by omega)
 obtain ⟨a7,p7,g7⟩:=(rd_sStep (enc:=enc) (w:=w) (num:=num) (ρ := ρ) B T n) n (Nat.le_refl _) _ y7.1 y7.2 f7 (by omega)
 obtain ⟨a8,p8,g8⟩:=(hs n (by omega)) n (Nat.le_refl _) _ y8.1 y8.2 f8 (by omega)
 refine ⟨.mk a0 a1 a2 a3 a4 a5 a6 a7 a8.nl a8.es a8.cl,?_,?_⟩
 rotate_left
 ·obtain ⟨_,ms,m1,m2,_⟩:=g8
  obtain ⟨k1,k2⟩:=sum_sz m1
  refine ⟨(Pull.ok_iff _).2 ⟨a8.ok,k1⟩,?_⟩
  rw [Pull.sz_eq]
  show 1+Pull.szL a8.es≤_
  omega
 have q:=(p0.piece (p1.piece (p2.piece (p3.piece (p4.piece (p5.piece (p6.piece (p7.piece (p8.piece (All2.done (by omega)))))))))))
 rw [List.drop_zero] at q
 exact q
theorem rd_sPull1 (N:Nat) (h:Rd enc P w num ρ b N tPull (fun x:Pull=>[Str.av x.op]++([intA x.num]++([intA x.value]++([Str.av x.name]++([x.at_.av Lin.av]++([.bool x.dyn]++([intA x.check]++([x.fn.av Step.av]++([x.kav]++[]))))))))) (fun p n=>p.ok∧p.sz≤n)):Rd enc P w num ρ b (N+1) sPull (fun s:Sl Pull=>[s.av Pull.av]) (fun s n=>(s.nl=true→s.es=[])∧∃ ms:List Nat,All2 (fun (p:Pull) n=>p.ok∧p.sz≤n) s.es ms∧ms.sum+1≤n∧∀ m∈ms,1≤m):=
 Rd.slice B (N:=N) (sz:=9) Pull.av T.u_sPull T.c_tPull (by decide) (fun x=>by rw [Pull.av_eq];rfl) (fun x=>rfl) h
theorem rd_tPull:∀ N:Nat,Rd enc P w num ρ b N tPull (fun x:Pull=>[Str.av x.op]++([intA x.num]++([intA x.value]++([Str.av x.name]++([x.at_.av Lin.av]++([.bool x.dyn]++([intA x.check]++([x.fn.av Step.av]++([x.kav]++[]))))))))) (fun p n=>p.ok∧p.sz≤n)
 | 0=>rd_tPull1 B T 0 (fun n hn=>by omega)
 | N+1=>rd_tPull1 B T (N+1) (fun n hn=>(rd_sPull1 B T N (rd_tPull N)).mono (by omega))
theorem rd_tKer (N:Nat):Rd enc P w num ρ b N tKer (fun x:Kernel=>[intA x.kind]++([intA x.value]++([x.space.av Lin.av]++(([Str.av x.body.op]++([intA x.body.num]++([intA x.body.value]++([Str.av x.body.name]++([x.body.at_.av Lin.av]++([.bool x.body.dyn]++([intA x.body.check]++([x.body.fn.av Step.av]++([x.body.kav]++[])))))))))++([x.fn.av Step.av]++([intA x.source]++(([Str.av x.index.op]++([intA x.index.num]++([intA x.index.value]++([Str.av x.index.name]++([x.index.at_.av Lin.av]++([.bool x.index.dyn]++([intA x.index.check]++([x.index.fn.av Step.av]++([x.index.kav]++[])))))))))++([intA x.check]++[])))))))) (fun q n=>q.body.ok∧q.index.ok∧q.body.sz+q.index.sz+2≤n):=by
 intro fuel hN cs d ps h hb
 obtain ⟨fs,hu,hL⟩:=T.u_tKer
 obtain ⟨xs,n,hn,hx,hcl,hl,hf⟩:=trod_fields hu hL h
 rw [T.c_tKer] at hcl
 obtain ⟨y0,y1,y2,y3,y4,y5,y6,y7,rfl⟩:∃ y0 y1 y2 y3 y4 y5 y6 y7,xs=[y0,y1,y2,y3,y4,y5,y6,y7]:=by
  match xs,hl with
  | [y0,y1,y2,y3,y4,y5,y6,y7],_=>exact ⟨y0,y1,y2,y3,y4,y5,y6,y7,rfl⟩
 have hx':d = .agg [y0.1,y1.1,y2.1,y3.1,y4.1,y5.1,y6.1,y7.1]:=hx
 subst hx'
 rw [B.agg] at hb ⊢
 simp only [B.cons,B.nil] at hb ⊢
 have f0:_=some y0:=hf 0 (tI,0) rfl
 have f1:_=some y1:=hf 1 (tI,1) rfl
 have f2:_=some y2:=hf 2 (sLin,2) rfl
 have f3:_=some y3:=hf 3 (tPull,3) rfl
 have f4:_=some y4:=hf 4 (sStep,12) rfl
 have f5:_=some y5:=hf 5 (tI,13) rfl
 have f6:_=some y6:=hf 6 (tPull,14) rfl
 have f7:_=some y7:=hf 7 (tI,23) rfl
 simp only [T.c_sLin,T.c_sStep,T.c_tI,T.c_tPull] at f0 f1 f2 f3 f4 f5 f6 f7
 obtain ⟨a0,p0,g0⟩:=(Rd.int (enc:=enc) (w:=w) (num:=num) (ρ := ρ) (b:=b) (N:=n) T.uI) n (Nat.le_refl _) _ y0.1 y0.2 f0 (by omega)
 obtain ⟨a1,p1,g1⟩:=(Rd.int (enc:=enc) (w:=w) (num:=num) (ρ := ρ) (b:=b) (N:=n) T.uI) n (Nat.le_refl _) _ y1.1 y1.2 f1 (by omega)
 obtain ⟨a2,p2,g2⟩:=(rd_sLin (enc:=enc) (w:=w) (num:=num) (ρ := ρ) B T n) n (Nat.le_refl _) _ y2.1 y2.2 f2 (by omega)
 obtain ⟨a3,p3,g3⟩:=(rd_tPull (enc:=enc) (w:=w) (num:=num) (ρ := ρ) B T n) n (Nat.le_refl _) _ y3.1 y3.2 f3 (by omega)
 obtain ⟨a4,p4,g4⟩:=(rd_sStep (enc:=enc) (w:=w) (num:=num) (ρ := ρ) B T n) n (Nat.le_refl _) _ y4.1 y4.2 f4 (by omega)
 obtain ⟨a5,p5,g5⟩:=(Rd.int (enc:=enc) (w:=w) (num:=num) (ρ := ρ) (b:=b) (N:=n) T.uI) n (Nat.le_refl _) _ y5.1 y5.2 f5 (by omega)
 obtain ⟨a6,p6,g6⟩:=(rd_tPull (enc:=enc) (w:=w) (num:=num) (ρ := ρ) B T n) n (Nat.le_refl _) _ y6.1 y6.2 f6 (by omega)
 obtain ⟨a7,p7,g7⟩:=(Rd.int (enc:=enc) (w:=w) (num:=num) (ρ := ρ) (b:=b) (N:=n) T.uI) n (Nat.le_refl _) _ y7.1 y7.2 f7 (by omega)
 refine ⟨⟨a0,a1,a2,a3,a4,a5,a6,a7⟩,?_,?_⟩
 rotate_left
 ·have o1:=B.one y0.1
  have o2:=B.one y1.1
  exact ⟨g3.1,g6.1,by have:=g3.2;have:=g6.2;show a3.sz+a6.sz+2≤_;omega⟩
 have q:=(p0.piece (p1.piece (p2.piece (p3.piece (p4.piece (p5.piece (p6.piece (p7.piece (All2.done (by omega))))))))))
 rw [List.drop_zero] at q
 exact q
theorem rd_sKer (N:Nat):Rd enc P w num ρ b N sKer (fun s:Sl Kernel=>[s.av Kernel.av]) (fun s n=>(s.nl=true→s.es=[])∧∃ ms:List Nat,All2 (fun (q:Kernel) n=>q.body.ok∧q.index.ok∧q.body.sz+q.index.sz+2≤n) s.es ms∧ms.sum+1≤n∧∀ m∈ms,1≤m):=
 (Rd.slice B (N:=N) (sz:=24) Kernel.av T.u_sKer T.c_tKer (by decide) (fun x=>rfl) (fun x=>rfl) (rd_tKer B T N)).mono (Nat.le_succ N)
omit B T in
theorem all2_mem {α : Type} {R : α → Nat→Prop}:∀ {l:List α} {ms:List Nat},All2 R l ms→∀ x∈l,∃ m,m∈ms∧R x m
 | _,_,.nil,x,hx=>by cases hx
 | _,_,.cons h r,x,hx=>by
  rcases List.mem_cons.1 hx with rfl | hx
  ·exact ⟨_,by simp,h⟩
  ·obtain ⟨m,h1,h2⟩:=all2_mem r x hx
   exact ⟨m,List.mem_cons_of_mem _ h1,h2⟩
theorem rd_tKers (N:Nat):Rd enc P w num ρ b N tKers (fun x:Kernels=>[x.vars.av Str.av]++([x.wher.av Lin.av]++([intA x.inputs]++([x.values.av Typ.av]++([x.list.av Kernel.av]++([x.results.av intA]++[])))))) (fun k _=>KOK k):=by
 intro fuel hN cs d ps h hb
 obtain ⟨fs,hu,hL⟩:=T.u_tKers
 obtain ⟨xs,n,hn,hx,hcl,hl,hf⟩:=trod_fields hu hL h
 rw [T.c_tKers] at hcl
 obtain ⟨y0,y1,y2,y3,y4,y5,rfl⟩:∃ y0 y1 y2 y3 y4 y5,xs=[y0,y1,y2,y3,y4,y5]:=by
  match xs,hl with
  | [y0,y1,y2,y3,y4,y5],_=>exact ⟨y0,y1,y2,y3,y4,y5,rfl⟩
 have hx':d = .agg [y0.1,y1.1,y2.1,y3.1,y4.1,y5.1]:=hx
 subst hx'
 rw [B.agg] at hb ⊢
 simp only [B.cons,B.nil] at hb ⊢
 have f0:_=some y0:=hf 0 (sStr,0) rfl
 have f1:_=some y1:=hf 1 (sLin,1) rfl
 have f2:_=some y2:=hf 2 (tI,2) rfl
 have f3:_=some y3:=hf 3 (sTyp,3) rfl
 have f4:_=some y4:=hf 4 (sKer,4) rfl
 have f5:_=some y5:=hf 5 (sInt,5) rfl
 simp only [T.c_sInt,T.c_sKer,T.c_sLin,T.c_sStr,T.c_sTyp,T.c_tI] at f0 f1 f2 f3 f4 f5
 obtain ⟨a0,p0,g0⟩:=(rd_sStr (enc:=enc) (w:=w) (num:=num) (ρ := ρ) B T n) n (Nat.le_refl _) _ y0.1 y0.2 f0 (by omega)
 obtain ⟨a1,p1,g1⟩:=(rd_sLin (enc:=enc) (w:=w) (num:=num) (ρ := ρ) B T n) n (Nat.le_refl _) _ y1.1 y1.2 f1 (by omega)
 obtain ⟨a2,p2,g2⟩:=(Rd.int (enc:=enc) (w:=w) (num:=num) (ρ := ρ) (b:=b) (N:=n) T.uI) n (Nat.le_refl _) _ y2.1 y2.2 f2 (by omega)
 obtain ⟨a3,p3,g3⟩:=(rd_sTyp (enc:=enc) (w:=w) (num:=num) (ρ := ρ) B T n) n (Nat.le_refl _) _ y3.1 y3.2 f3 (by omega)
 obtain ⟨a4,p4,g4⟩:=(rd_sKer (enc:=enc) (w:=w) (num:=num) (ρ := ρ) B T n) n (Nat.le_refl _) _ y4.1 y4.2 f4 (by omega)
 obtain ⟨a5,p5,g5⟩:=(rd_sInt (enc:=enc) (w:=w) (num:=num) (ρ := ρ) B T n) n (Nat.le_refl _) _ y5.1 y5.2 f5 (by omega)
 refine ⟨⟨a0,a1,a2,a3,a4,a5⟩,?_,?_⟩
 rotate_left
 ·obtain ⟨n0,ms0,m0,s0,o0⟩:=g0
  obtain ⟨_,ms4,m4,s4,_⟩:=g4
  have hl0:a0.es.length≤ms0.sum:=by rw [m0.length];exact length_le_sum o0
  have hk:∀ q∈a4.es,q.body.ok∧q.index.ok∧q.body.sz+q.index.sz+2≤1048576:=by
   intro q hq
   obtain ⟨m,h1,h2,h3,h4⟩:=all2_mem m4 q hq
   obtain ⟨i,hi⟩:=List.getElem?_of_mem h1
   have:=le_sum hi
   exact ⟨h2,h3,by omega⟩
  have hsm:∀ q∈a4.es,a0.es.length+q.body.sz+q.index.sz≤1048576:=by
   intro q hq
   obtain ⟨m,h1,h2,h3,h4⟩:=all2_mem m4 q hq
   obtain ⟨i,hi⟩:=List.getElem?_of_mem h1
   have:=le_sum hi
   omega
  refine ⟨n0,fun q hq=>?_,fun q hq=>?_,hsm⟩
  ·obtain ⟨h2,h3,h4⟩:=hk q hq
   refine ⟨h2,h3,?_,?_⟩
   ·show a0.es.length+9+q.body.sz≤big
    simp only [big];omega
   ·show a0.es.length+9+q.index.sz≤big
    simp only [big];omega
  ·obtain ⟨h2,h3,h4⟩:=hk q hq
   simp only [big];omega
 have q:=(p0.piece (p1.piece (p2.piece (p3.piece (p4.piece (p5.piece (All2.done (by omega))))))))
 rw [List.drop_zero] at q
 exact q
end
end Go.Tev
end
section
namespace Go.Tev
section
variable {H:Type} {enc:TypeId × Value→H} {P:Program} {w:World} {num:Nm} {ρ : Rho} {b:DataW H→Nat} {bs:List (DataW H)→Nat}
end
end Go.Tev
end
section
set_option maxRecDepth 100000
namespace Go.Proofs
open Go.Tev
theorem tyS:TyP Tryz.prog 3 9 4 101 64 78 80 152 29 82 40 62 23 36 26 27 37 38 32 where
 uI:=Tryz.underlying3
 uS:=Tryz.underlying9
 uB:=Tryz.underlying4
 u_tCoef:=⟨_,Tryz.underlying101,by kernel_rfl⟩
 u_tLin:=⟨_,Tryz.underlying64,by kernel_rfl⟩
 u_tShape:=⟨_,Tryz.underlying78,by kernel_rfl⟩
 u_tTyp:=⟨_,Tryz.underlying80,by kernel_rfl⟩
 u_tStep:=⟨_,Tryz.underlying152,by kernel_rfl⟩
 u_tPull:=⟨_,Tryz.underlying29,by kernel_rfl⟩
 u_tKer:=⟨_,Tryz.underlying82,by kernel_rfl⟩
 u_tKers:=⟨_,Tryz.underlying40,by kernel_rfl⟩
 u_sCoef:=Tryz.underlying62
 u_sLin:=Tryz.underlying23
 u_sTyp:=Tryz.underlying36
 u_sStep:=Tryz.underlying26
 u_sPull:=Tryz.underlying27
 u_sKer:=Tryz.underlying37
 u_sInt:=Tryz.underlying38
 u_sStr:=Tryz.underlying32
 c_tI:=by kernel_rfl
 c_tS:=by kernel_rfl
 c_tB:=by kernel_rfl
 c_tCoef:=by kernel_rfl
 c_tLin:=by kernel_rfl
 c_tShape:=by kernel_rfl
 c_tTyp:=by kernel_rfl
 c_tStep:=by kernel_rfl
 c_tPull:=by kernel_rfl
 c_tKer:=by kernel_rfl
 c_tKers:=by kernel_rfl
 c_sCoef:=by kernel_rfl
 c_sLin:=by kernel_rfl
 c_sTyp:=by kernel_rfl
 c_sStep:=by kernel_rfl
 c_sPull:=by kernel_rfl
 c_sKer:=by kernel_rfl
 c_sInt:=by kernel_rfl
 c_sStr:=by kernel_rfl
theorem glob_of {ρ : Rho} {W:World} {g:Nat} {v:AV} {cs:Array Value} {T:TypeId} {fr:Nat × Nat} (ht:v.tree=true) (hg:W.heap[g]?=some (.cells cs T fr)) (h:All2 (Rv nm ρ W noF) v.cells cs.toList) :
  (v.tree=true∧∃ c T fr,W.heap[gnum g]?=some (.cells c T fr)∧c.size=v.cells.length)∧Rv nm ρ W noF (.fp v) (.pointer (some ⟨gnum g,0,none⟩)):=by
 have hl:=h.length
 have hsz:cs.size=v.cells.length:=by rw [hl];simp
 refine ⟨⟨ht,cs,T,fr,hg,hsz⟩,?_⟩
 have hlt:g < W.heap.size:=by
  by_cases hlt:g < W.heap.size
  ·exact hlt
  ·rw [Array.getElem?_eq_none (Nat.le_of_not_lt hlt)] at hg;cases hg
 have hcell:∀ n,n < cs.size→W.cell? ⟨g,0+n,none⟩=some (cs[n]?.getD undef):=by
  intro n hn
  simp only [World.cell?,hg,Option.isSome_none,Bool.false_eq_true,if_false,Nat.zero_add]
  rw [Array.getElem?_eq_getElem hn];rfl
 refine .fp v g 0 (fun n=>cs[n]?.getD undef) (fun h=>h) hlt (fun n hn=>hcell n (by omega)) ?_
 intro j x hx
 have hj:j < cs.size:=by rw [hsz];exact (List.getElem?_eq_some_iff.1 hx).1
 have h2:=h.get j x (cs[j]'hj) hx (by rw [Array.getElem?_toList,Array.getElem?_eq_getElem hj])
 simpa [Array.getElem?_eq_getElem hj] using h2
theorem var_cells {P:Program} {W:World} {n:String} {g:Nat} {cs:Array Value} (hg:P.globalNamed n=some g) (h:W.var? P n=some cs):∃ T fr,W.heap[g]?=some (.cells cs T fr):=by
 unfold World.var? at h
 rw [hg,Option.bind_some] at h
 split at h
 ·rename_i c T fr hh
  cases h
  exact ⟨T,fr,hh⟩
 ·cases h
theorem iface_of {P:Program} {W:World} {fuel:Nat} {t:TypeId} {cs:List Value} {name:String} {d:DataW Unit} {p:List MemPlace} {ms} (ht:P.underlying t=some (.interface ms))
  (h:DataW.trod (fun _=>()) P W 0 (fun _=>true) false fuel t cs=some (.iface name d,p)):∃ u v,cs=[.iface u v]:=by
 cases fuel with
 | zero=>simp [DataW.trod] at h
 | succ fuel=>
  unfold DataW.trod at h
  rw [ht] at h
  split at h<;>first | (rename_i e;cases e;done) | skip
  all_goals first | (exact ⟨_,_,rfl⟩) | (cases h;done) | skip
theorem globS {W:World} (hL:laidMetH Tryz.prog YtapbonkiigealaaGreatDoor.Rows.nestOfUptoRow.laid W):GlobOK nm glS gnum (fun _ _=>none) W noF:=by
 have e:(YtapbonkiigealaaGreatDoor.Rows.nestOfUptoRow.laid.filter fun x=>x.2.handleName?.isSome)=[]:=by kernel_rfl
 have h:laidMet Tryz.prog YtapbonkiigealaaGreatDoor.Rows.nestOfUptoRow.laid W:=by
  unfold laidMetH at hL
  rw [e] at hL
  exact hL
 obtain ⟨ps,hv,_,_⟩:=h
 obtain ⟨g1,t1,cs1,f1,p1,q1,hg1,ht1,hv1,hd1,hr1,_⟩:=hv
 obtain ⟨g2,t2,cs2,f2,p2,q2,hg2,ht2,hv2,hd2,hr2,_⟩:=hr1
 obtain ⟨g3,t3,cs3,f3,p3,q3,hg3,ht3,hv3,hd3,hr3,_⟩:=hr2
 obtain ⟨g4,t4,cs4,f4,p4,q4,hg4,ht4,hv4,hd4,hr4,_⟩:=hr3
 obtain ⟨g5,t5,cs5,f5,p5,q5,hg5,ht5,hv5,hd5,hr5,_⟩:=hr4
 clear hr5
 obtain ⟨T3,fr3,hh3⟩:=var_cells hg3 hv3
 obtain ⟨T4,fr4,hh4⟩:=var_cells hg4 hv4
 obtain ⟨T5,fr5,hh5⟩:=var_cells hg5 hv5
 obtain rfl:2=g3:=Option.some.inj ((show Tryz.prog.globalNamed _=some 2 by kernel_rfl).symm.trans hg3)
 obtain rfl:1=g4:=Option.some.inj ((show Tryz.prog.globalNamed _=some 1 by kernel_rfl).symm.trans hg4)
 obtain rfl:0=g5:=Option.some.inj ((show Tryz.prog.globalNamed _=some 0 by kernel_rfl).symm.trans hg5)
 obtain rfl:247=t3:=Option.some.inj ((show (Tryz.prog.globals[2]?).map (·.type)=some 247 by kernel_rfl).symm.trans ht3)
 obtain rfl:140=t4:=Option.some.inj ((show (Tryz.prog.globals[1]?).map (·.type)=some 140 by kernel_rfl).symm.trans ht4)
 obtain rfl:140=t5:=Option.some.inj ((show (Tryz.prog.globals[0]?).map (·.type)=some 140 by kernel_rfl).symm.trans ht5)
 have hd3':DataW.trod (fun _=>()) Tryz.prog W 0 (fun _=>true) false f3 247 cs3.toList=some (Lib.tabData .u64 Lib.pow10Tab,p3):=hd3
 have hcsP:=Lib.cells_of_tab Tryz.underlying247 Tryz.underlying193 (by kernel_rfl) (by kernel_rfl) hd3'
 obtain ⟨uR,vR,hcR⟩:=iface_of Tryz.underlying140 hd4
 obtain ⟨uY,vY,hcY⟩:=iface_of Tryz.underlying140 hd5
 intro g v hg
 unfold glS at hg
 cases h1:g.beq 0 with
 | true=>
  rw [h1] at hg
  simp only [cond_true,Option.some.injEq] at hg
  subst hg
  obtain rfl:=Nat.eq_of_beq_eq_true h1
  exact glob_of (by kernel_rfl) hh5 (by rw [hcY];exact .cons (.ifc _ _ _ (.top _)) .nil)
 | false=>
  cases h2:g.beq 1 with
  | true=>
   rw [h1,h2] at hg
   simp only [cond_true,cond_false,Option.some.injEq] at hg
   subst hg
   obtain rfl:=Nat.eq_of_beq_eq_true h2
   exact glob_of (by kernel_rfl) hh4 (by rw [hcR];exact .cons (.ifc _ _ _ (.top _)) .nil)
  | false=>
   cases h3:g.beq 2 with
   | true=>
    rw [h1,h2,h3] at hg
    simp only [cond_true,cond_false,Option.some.injEq] at hg
    subst hg
    obtain rfl:=Nat.eq_of_beq_eq_true h3
    refine glob_of (by kernel_rfl) hh3 ?_
    rw [hcsP]
    refine All2.mk_get (by simp [AV.cells]) ?_
    intro i x y hx hy
    simp only [AV.cells,List.getElem?_map] at hx hy
    cases hz:Lib.pow10Tab[i]? with
    | none=>rw [hz] at hx;cases hx
    | some z=>
     rw [hz] at hx hy
     cases hx;cases hy
     exact .int _ _
   | false=>rw [h1,h2,h3] at hg;cases hg
end Go.Proofs
end
section
namespace Go.Tev
structure Loop where
 v:Str
 lo:Lin
 hi:Sl Lin
 step:Int
def Loop.av (x:Loop):AV:=.agg [.str x.v.bs,.int .i64 x.lo.c,x.lo.ts.av Coef.av,x.hi.av Lin.av,.int .i64 x.step]
structure Nest where
 loops:Sl Loop
 value:Int
 at_:Sl Lin
 dyn:Bool
 index:Pull
 check:Int
 body:Pull
def Nest.cells (x:Nest):List AV:=[x.loops.av Loop.av,.int .i64 x.value,x.at_.av Lin.av,.bool x.dyn]++x.index.cells++[.int .i64 x.check]++x.body.cells
def Nest.av (x:Nest):AV:=.agg x.cells
theorem Loop.avc (x:Loop):Loop.av x = .agg [.str x.v.bs,.int .i64 x.lo.c,.sl x.lo.ts.nl (x.lo.ts.es.map Coef.av) x.lo.ts.cl,.sl x.hi.nl (x.hi.es.map Lin.av) x.hi.cl,.int .i64 x.step]:=rfl
theorem Loop.cells_av (x:Loop):(Loop.av x).cells=[.str x.v.bs,.int .i64 x.lo.c,.sl x.lo.ts.nl (x.lo.ts.es.map Coef.av) x.lo.ts.cl,.sl x.hi.nl (x.hi.es.map Lin.av) x.hi.cl,.int .i64 x.step]:=by rw [Loop.avc];rfl
theorem Loop.isAgg_av (x:Loop):(Loop.av x).isAgg=true:=by rw [Loop.avc];rfl
theorem Loop.fits_av (x:Loop):(Loop.av x).fits 5 true=true:=by rw [Loop.avc];rfl
theorem Loop.tree_av (x:Loop):(Loop.av x).tree=true:=by rw [Loop.avc];simp [go_sem]
theorem Loop.treeL_av (l:List Loop):Tev.treeL (l.map Loop.av)=true:=treeL_map Loop.tree_av l
theorem Loop.fld_av (off sz:Nat) (ag:Bool) (x:Loop):f_fld off sz ag [Loop.av x]=f_fld off sz ag [.agg [.str x.v.bs,.int .i64 x.lo.c,.sl x.lo.ts.nl (x.lo.ts.es.map Coef.av) x.lo.ts.cl,.sl x.hi.nl (x.hi.es.map Lin.av) x.hi.cl,.int .i64 x.step]]:=by rw [Loop.avc]
theorem Loop.fad_av (off sz:Nat) (ag:Bool) (x:Loop):f_fad off sz ag [.fp (Loop.av x)]=f_fad off sz ag [.fp (.agg [.str x.v.bs,.int .i64 x.lo.c,.sl x.lo.ts.nl (x.lo.ts.es.map Coef.av) x.lo.ts.cl,.sl x.hi.nl (x.hi.es.map Lin.av) x.hi.cl,.int .i64 x.step])]:=by rw [Loop.avc]
theorem Loop.box_av (h:Hp) (k:Nat) (x:Loop):f_box h k [Loop.av x]=f_box h k [.agg [.str x.v.bs,.int .i64 x.lo.c,.sl x.lo.ts.nl (x.lo.ts.es.map Coef.av) x.lo.ts.cl,.sl x.hi.nl (x.hi.es.map Lin.av) x.hi.cl,.int .i64 x.step]]:=by rw [Loop.avc]
attribute [go_sem high] Loop.cells_av Loop.isAgg_av Loop.fits_av Loop.tree_av Loop.treeL_av
attribute [go_sem ↓ high] Loop.fld_av Loop.fad_av Loop.box_av
theorem Nest.avc (x:Nest):Nest.av x = .agg [.sl x.loops.nl (x.loops.es.map Loop.av) x.loops.cl,.int .i64 x.value,.sl x.at_.nl (x.at_.es.map Lin.av) x.at_.cl,.bool x.dyn,.str x.index.op.bs,.int .i64 x.index.num,.int .i64 x.index.value,.str x.index.name.bs,.sl x.index.at_.nl (x.index.at_.es.map Lin.av) x.index.at_.cl,.bool x.index.dyn,.int .i64 x.index.check,.sl x.index.fn.nl (x.index.fn.es.map Step.av) x.index.fn.cl,.sl x.index.knl (x.index.kids.map Pull.av) x.index.kcl,.int .i64 x.check,.str x.body.op.bs,.int .i64 x.body.num,.int .i64 x.body.value,.str x.body.name.bs,.sl x.body.at_.nl (x.body.at_.es.map Lin.av) x.body.at_.cl,.bool x.body.dyn,.int .i64 x.body.check,.sl x.body.fn.nl (x.body.fn.es.map Step.av) x.body.fn.cl,.sl x.body.knl (x.body.kids.map Pull.av) x.body.kcl]:=rfl
theorem Nest.cells_av (x:Nest):(Nest.av x).cells=[.sl x.loops.nl (x.loops.es.map Loop.av) x.loops.cl,.int .i64 x.value,.sl x.at_.nl (x.at_.es.map Lin.av) x.at_.cl,.bool x.dyn,.str x.index.op.bs,.int .i64 x.index.num,.int .i64 x.index.value,.str x.index.name.bs,.sl x.index.at_.nl (x.index.at_.es.map Lin.av) x.index.at_.cl,.bool x.index.dyn,.int .i64 x.index.check,.sl x.index.fn.nl (x.index.fn.es.map Step.av) x.index.fn.cl,.sl x.index.knl (x.index.kids.map Pull.av) x.index.kcl,.int .i64 x.check,.str x.body.op.bs,.int .i64 x.body.num,.int .i64 x.body.value,.str x.body.name.bs,.sl x.body.at_.nl (x.body.at_.es.map Lin.av) x.body.at_.cl,.bool x.body.dyn,.int .i64 x.body.check,.sl x.body.fn.nl (x.body.fn.es.map Step.av) x.body.fn.cl,.sl x.body.knl (x.body.kids.map Pull.av) x.body.kcl]:=by rw [Nest.avc];rfl
theorem Nest.isAgg_av (x:Nest):(Nest.av x).isAgg=true:=by rw [Nest.avc];rfl
theorem Nest.fits_av (x:Nest):(Nest.av x).fits 23 true=true:=by rw [Nest.avc];rfl
theorem Nest.tree_av (x:Nest):(Nest.av x).tree=true:=by rw [Nest.avc];simp [go_sem]
theorem Nest.treeL_av (l:List Nest):Tev.treeL (l.map Nest.av)=true:=treeL_map Nest.tree_av l
theorem Nest.fld_av (off sz:Nat) (ag:Bool) (x:Nest):f_fld off sz ag [Nest.av x]=f_fld off sz ag [.agg [.sl x.loops.nl (x.loops.es.map Loop.av) x.loops.cl,.int .i64 x.value,.sl x.at_.nl (x.at_.es.map Lin.av) x.at_.cl,.bool x.dyn,.str x.index.op.bs,.int .i64 x.index.num,.int .i64 x.index.value,.str x.index.name.bs,.sl x.index.at_.nl (x.index.at_.es.map Lin.av) x.index.at_.cl,.bool x.index.dyn,.int .i64 x.index.check,.sl x.index.fn.nl (x.index.fn.es.map Step.av) x.index.fn.cl,.sl x.index.knl (x.index.kids.map Pull.av) x.index.kcl,.int .i64 x.check,.str x.body.op.bs,.int .i64 x.body.num,.int .i64 x.body.value,.str x.body.name.bs,.sl x.body.at_.nl (x.body.at_.es.map Lin.av) x.body.at_.cl,.bool x.body.dyn,.int .i64 x.body.check,.sl x.body.fn.nl (x.body.fn.es.map Step.av) x.body.fn.cl,.sl x.body.knl (x.body.kids.map Pull.av) x.body.kcl]]:=by rw [Nest.avc]
theorem Nest.fad_av (off sz:Nat) (ag:Bool) (x:Nest):f_fad off sz ag [.fp (Nest.av x)]=f_fad off sz ag [.fp (.agg [.sl x.loops.nl (x.loops.es.map Loop.av) x.loops.cl,.int .i64 x.value,.sl x.at_.nl (x.at_.es.map Lin.av) x.at_.cl,.bool x.dyn,.str x.index.op.bs,.int .i64 x.index.num,.int .i64 x.index.value,.str x.index.name.bs,.sl x.index.at_.nl (x.index.at_.es.map Lin.av) x.index.at_.cl,.bool x.index.dyn,.int .i64 x.index.check,.sl x.index.fn.nl (x.index.fn.es.map Step.av) x.index.fn.cl,.sl x.index.knl (x.index.kids.map Pull.av) x.index.kcl,.int .i64 x.check,.str x.body.op.bs,.int .i64 x.body.num,.int .i64 x.body.value,.str x.body.name.bs,.sl x.body.at_.nl (x.body.at_.es.map Lin.av) x.body.at_.cl,.bool x.body.dyn,.int .i64 x.body.check,.sl x.body.fn.nl (x.body.fn.es.map Step.av) x.body.fn.cl,.sl x.body.knl (x.body.kids.map Pull.av) x.body.kcl])]:=by rw [Nest.avc]
theorem Nest.box_av (h:Hp) (k:Nat) (x:Nest):f_box h k [Nest.av x]=f_box h k [.agg [.sl x.loops.nl (x.loops.es.map Loop.av) x.loops.cl,.int .i64 x.value,.sl x.at_.nl (x.at_.es.map Lin.av) x.at_.cl,.bool x.dyn,.str x.index.op.bs,.int .i64 x.index.num,.int .i64 x.index.value,.str x.index.name.bs,.sl x.index.at_.nl (x.index.at_.es.map Lin.av) x.index.at_.cl,.bool x.index.dyn,.int .i64 x.index.check,.sl x.index.fn.nl (x.index.fn.es.map Step.av) x.index.fn.cl,.sl x.index.knl (x.index.kids.map Pull.av) x.index.kcl,.int .i64 x.check,.str x.body.op.bs,.int .i64 x.body.num,.int .i64 x.body.value,.str x.body.name.bs,.sl x.body.at_.nl (x.body.at_.es.map Lin.av) x.body.at_.cl,.bool x.body.dyn,.int .i64 x.body.check,.sl x.body.fn.nl (x.body.fn.es.map Step.av) x.body.fn.cl,.sl x.body.knl (x.body.kids.map Pull.av) x.body.kcl]]:=by rw [Nest.avc]
attribute [go_sem high] Nest.cells_av Nest.isAgg_av Nest.fits_av Nest.tree_av Nest.treeL_av
attribute [go_sem ↓ high] Nest.fld_av Nest.fad_av Nest.box_av
end Go.Tev
end
