import Derived.Test.YtdpdokigjeaaiaaGreatDoorNCm
import Derived.Lib.AtoiAll
import Derived.Lib.AtoiAllCases
import Derived.Test.YtdpdokigjeaaiaaGreatDoorEvDm
import Derived.Lib.SlicesCompact
import Derived.Lib.ItoaNum
import Derived.Lib.AtoiErrMem
import Derived.Sort.Grow
set_option linter.all false
section
namespace Go.Tev
def digs:Nat→Nat→List UInt8
 | 0,_=>[]
 | f+1,u=>if u < 10 then [UInt8.ofNat (48+u)] else digs f (u / 10)++[UInt8.ofNat (48+u % 10)]
def dfold (acc:Nat) (l:List UInt8):Nat:=l.foldl (fun a c=>a*10+(c.toNat - 48)) acc
theorem dfold_ge:∀ (l:List UInt8) (acc:Nat),acc≤dfold acc l
 | [],acc=>Nat.le_refl _
 | c :: r,acc=>by
  have:=dfold_ge r (acc*10+(c.toNat - 48))
  simp only [dfold,List.foldl_cons] at this ⊢
  omega
theorem dfold_lt:∀ (l:List UInt8) (acc:Nat),l.all digit=true→dfold acc l < (acc+1)*10 ^ l.length
 | [],acc,_=>by simp [dfold]
 | c :: r,acc,h=>by
  simp only [List.all_cons,Bool.and_eq_true,digit,decide_eq_true_eq] at h
  have:=dfold_lt r (acc*10+(c.toNat - 48)) (by simpa [digit] using h.2)
  simp only [dfold,List.foldl_cons,List.length_cons,Nat.pow_succ] at this ⊢
  refine Nat.lt_of_lt_of_le this ?_
  rw [Nat.mul_comm (10 ^ r.length) 10,← Nat.mul_assoc]
  exact Nat.mul_le_mul_right _ (by omega)
theorem dfold_snoc (l:List UInt8) (c:UInt8) (acc:Nat):dfold acc (l++[c])=dfold acc l*10+(c.toNat - 48):=by simp [dfold]
theorem parse_digits:∀ (l:List UInt8) (acc:Nat),l.all digit=true→dfold acc l < 1844674407370955162→Lib.parseUint10 acc l = .ok (dfold acc l)
 | [],acc,_,_=>rfl
 | c :: r,acc,h,hb=>by
  simp only [List.all_cons,Bool.and_eq_true] at h
  have hd:=h.1
  simp only [digit,Bool.and_eq_true,decide_eq_true_eq] at hd
  have h1:=dfold_ge r (acc*10+(c.toNat - 48))
  have e:dfold acc (c :: r)=dfold (acc*10+(c.toNat - 48)) r:=rfl
  rw [e] at hb ⊢
  rw [Lib.parseUint10,if_pos hd,if_neg (by omega),if_neg (by omega)]
  exact parse_digits r _ h.2 hb
theorem dfold_pos {l:List UInt8} (h:l.all digit=true) (h0:l ≠ []) (hh:l.head? ≠ some 48):0 < dfold 0 l:=by
 cases l with
 | nil=>exact absurd rfl h0
 | cons c r=>
  simp only [List.all_cons,Bool.and_eq_true,digit,decide_eq_true_eq] at h
  have h1:=dfold_ge r (0*10+(c.toNat - 48))
  have h2:c.toNat ≠ 48:=fun e=>hh (by simp;exact UInt8.toNat_inj.1 e)
  have e:dfold 0 (c :: r)=dfold (0*10+(c.toNat - 48)) r:=rfl
  rw [e]
  omega
theorem digs_val:∀ (n f:Nat) (l:List UInt8),l.length=n→n≤f→l.all digit=true→l ≠ []→l.head? ≠ some 48→digs f (dfold 0 l)=l
 | 0,f,l,hn,_,_,h0,_=>absurd (List.eq_nil_of_length_eq_zero hn) h0
 | n+1,f,l,hn,hf,hd,h0,hh=>by
  obtain ⟨f,rfl⟩:∃ g,f=g+1:=⟨f - 1,by omega⟩
  obtain ⟨l',c,rfl⟩:∃ l' c,l=l'++[c]:=by
   rcases List.eq_nil_or_concat l with h | ⟨l',c,h⟩
   ·exact absurd h h0
   ·exact ⟨l',c,by simpa using h⟩
  simp only [List.all_append,List.all_cons,List.all_nil,Bool.and_true,Bool.and_eq_true] at hd
  have hc:=hd.2
  simp only [digit,Bool.and_eq_true,decide_eq_true_eq] at hc
  have hcc:UInt8.ofNat (48+(c.toNat - 48))=c:=by rw [Nat.add_sub_cancel' hc.1];exact UInt8.ofNat_toNat
  rw [dfold_snoc]
  by_cases hl:l'=[]
  ·subst hl
   have:dfold 0 []=0:=rfl
   rw [this,digs,if_pos (by omega)]
   simp only [Nat.zero_mul,Nat.zero_add,List.nil_append]
   rw [hcc]
  ·have hh':l'.head? ≠ some 48:=by
    cases l' with
    | nil=>exact absurd rfl hl
    | cons x r=>simpa using hh
   have hp:=dfold_pos hd.1 hl hh'
   rw [digs,if_neg (by omega)]
   have e1:(dfold 0 l'*10+(c.toNat - 48)) / 10=dfold 0 l':=by omega
   have e2:(dfold 0 l'*10+(c.toNat - 48)) % 10=c.toNat - 48:=by omega
   rw [e1,e2,hcc,digs_val n f l' (by simpa using hn) (by omega) hd.1 hl hh']
theorem digs_digit:∀ (f u:Nat),0 < u→u < 10 ^ f→(digs f u).all digit=true∧digs f u ≠ []∧(digs f u).head? ≠ some 48
 | 0,u,h,hu=>by simp at hu;omega
 | f+1,u,h,hu=>by
  have hof:∀ n:Nat,n < 10→(UInt8.ofNat (48+n)).toNat=48+n:=fun n hn=>by simp;omega
  rw [digs]
  split
  ·rename_i h1
   refine ⟨by simp [digit,hof u h1];omega,by simp,?_⟩
   intro he
   simp only [List.head?_cons,Option.some.injEq] at he
   have:=congrArg UInt8.toNat he
   rw [hof u h1] at this
   simp at this
   omega
  ·obtain ⟨a,b,c⟩:=digs_digit f (u / 10) (by omega) (by rw [Nat.pow_succ] at hu;omega)
   refine ⟨?_,by simp,?_⟩
   ·rw [List.all_append,a]
    simp [digit,hof (u % 10) (by omega)]
    omega
   ·cases hx:digs f (u / 10) with
    | nil=>exact absurd hx b
    | cons x r=>rw [hx] at c;simpa using c
def atoiName (t:List UInt8):Bool:=
 match Lib.atoiAll t with
 | .ok v=>decide (0 < v)&&decide ((t.length:Int)+1≤10)&&decide (digs 20 v.toNat=t)
 | _=>false
theorem atoiName_eq (t:List UInt8):atoiName t=(decide (2≤t.length+1)&&decide (t.length+1≤10) && !decide (t.head?=some 48)&&t.all digit):=by
 cases hr:(decide (2≤t.length+1)&&decide (t.length+1≤10) && !decide (t.head?=some 48)&&t.all digit)
 ·cases ha:atoiName t
  ·rfl
  ·exfalso
   simp only [atoiName] at ha
   split at ha
   ·rename_i v hv
    simp only [Bool.and_eq_true,decide_eq_true_eq] at ha
    obtain ⟨⟨h1,h2⟩,h3⟩:=ha
    obtain ⟨hb1,hb2⟩:v.toNat < 10 ^ 20∧0 < v.toNat:=by
     have hv2:v.toNat < 18446744073709551616:=by
      cases t with
      | nil=>simp [Lib.atoiAll] at hv
      | cons c r=>
       simp only [Lib.atoiAll] at hv
       split at hv
       ·cases hv
       ·cases hv
       ·rename_i u hu
        have:=Lib.parseMag_lt hu
        split at hv
        ·cases hv
        ·split at hv
         ·cases hv
         ·injection hv with hv
          split at hv<;>omega
     exact ⟨by omega,by omega⟩
    obtain ⟨a,b,c⟩:=digs_digit 20 v.toNat hb2 hb1
    rw [h3] at a b c
    have hlen:0 < t.length:=List.length_pos_iff.2 b
    simp [a,c] at hr
    omega
   ·cases ha
 ·simp only [Bool.and_eq_true,Bool.not_eq_true',decide_eq_true_eq,decide_eq_false_iff_not] at hr
  obtain ⟨⟨⟨h1,h2⟩,h3⟩,h4⟩:=hr
  have h0:t ≠ []:=by rintro rfl;simp at h1
  have hlt:=dfold_lt t 0 h4
  have hpow:(10:Nat) ^ t.length≤10 ^ 9:=Nat.pow_le_pow_right (by decide) (by omega)
  have hsm:dfold 0 t < 1844674407370955162:=by
   have:(10:Nat) ^ 9=1000000000:=by decide
   omega
  have hp:=parse_digits t 0 h4 hsm
  have hpos:=dfold_pos h4 h0 h3
  have hv:Lib.atoiAll t = .ok ((dfold 0 t:Nat):Int):=by
   cases t with
   | nil=>exact absurd rfl h0
   | cons c r=>
    have hc:digit c=true:=by simp only [List.all_cons,Bool.and_eq_true] at h4;exact h4.1
    simp only [digit,Bool.and_eq_true,decide_eq_true_eq] at hc
    simp only [Lib.atoiAll]
    rw [if_neg (by omega)]
    simp only [Lib.parseMag]
    rw [if_neg (by simp),hp]
    simp only
    rw [if_neg (by omega),if_neg (by omega),if_neg (by omega)]
  have hd:=digs_val t.length 20 t rfl (by omega) h4 h0 h3
  simp only [atoiName,hv,Int.toNat_natCast,hd,decide_true,Bool.and_true,Bool.and_eq_true,decide_eq_true_eq]
  omega
end Go.Tev
end
section
namespace Go.Tev
def exAtoi (args:List AV) (_:Nat) (h:Hp):Option (AV × Hp):=
 match args with
 | [.str s]=>
  if s.length≤16777216 then
   match Lib.atoiAll s with
   | .ok v=>some (.tup [.int .i64 v,.nili],h)
   | .range=>some (.tup [.int .i64 (Lib.atoiSat s),.ifc .top],h)
   | _=>some (.tup [.int .i64 0,.ifc .top],h)
  else none
 | _=>none
def exItoa (args:List AV) (_:Nat) (h:Hp):Option (AV × Hp):=
 match args with
 | [.int .i64 n]=>if 0≤n∧n≤9223372036854775807 then some (.str (digs 20 n.toNat),h) else none
 | _=>none
def intsOf:List AV→Option (List Int)
 | []=>some []
 | .int .i64 n :: r=>(intsOf r).map (n :: ·)
 | _=>none
def exSort (args:List AV) (_:Nat) (h:Hp):Option (AV × Hp):=
 match args with
 | [.sl _ [] _]=>some (.tup [],h)
 | [.rf k e off len _]=>
  match h.get k with
  | some (e',.blk cs 1 false ti false)=>
   if e'=e∧off+len≤cs.length∧len≤16777216 then
    match intsOf ((cs.drop off).take len) with
    | some zs=>some (.tup [],h.put k e (.blk (writeA cs off ((sortI zs).map intA)) 1 false ti false))
    | none=>none
   else none
  | _=>none
 | _=>none
def exComp (args:List AV) (_:Nat) (h:Hp):Option (AV × Hp):=
 match args with
 | [.sl nl [] cl]=>some (.sl nl [] cl,h)
 | [.rf k e off len cap]=>
  match h.get k with
  | some (e',.blk cs 1 false ti false)=>
   if e'=e∧off+len≤cs.length∧len≤16777216 then
    match intsOf ((cs.drop off).take len) with
    | some zs=>some (.rf k e off (compI zs).length cap,h.put k e (.blk (writeA cs off ((compI zs++List.replicate (zs.length - (compI zs).length) 0).map intA)) 1 false ti false))
    | none=>none
   else none
  | _=>none
 | _=>none
theorem intsOf_map:∀ l:List Int,intsOf (l.map intA)=some l
 | []=>rfl
 | x :: r=>by simp [intsOf,intA,intsOf_map r]
structure Ora (pg:Pg):Prop where
 f92:pg.fs 92=none
 f93:pg.fs 93=none
 f75:pg.fs 75=none
 f76:pg.fs 76=none
 atoi:pg.ex 92=some exAtoi
 itoa:pg.ex 93=some exItoa
 sort:pg.ex 75=some exSort
 comp:pg.ex 76=some exComp
section
variable {pg:Pg}
theorem retH_ex {f:Nat} {g:List AV→Nat→Hp→Option (AV × Hp)} (hf:pg.fs f=none) (hx:pg.ex f=some g) {vs:List AV} {kb:Nat} {h h':Hp} {r:AV} (hg:g vs kb h=some (r,h')):RetH pg f vs kb h r h':=
 ⟨1,by simp only [callN,hf,hx,hg]⟩
theorem ret_ex {f:Nat} {g:List AV→Nat→Hp→Option (AV × Hp)} (hf:pg.fs f=none) (hx:pg.ex f=some g) {vs:List AV} {r:AV} (hg:g vs 0 []=some (r,[])) (hr:r.tree=true):Ret pg f vs r:=
 ⟨1,by simp only [callP,callN,hf,hx,hg,conv_tree hr]⟩
theorem baseS_of (A:Ora pg):BaseS pg where
 sort:=by
  intro kb h k e l hg hb
  refine retH_ex A.f75 A.sort ?_
  simp only [big] at hb
  simp only [exSort,hg,List.length_map,Nat.zero_add,List.drop_zero]
  rw [if_pos ⟨trivial,Nat.le_refl _,hb⟩,List.take_of_length_le (by simp),intsOf_map]
  have hd:List.drop l.length (l.map intA)=[]:=by rw [List.drop_eq_nil_iff];simp
  simp [writeA,sortI_len,hd]
 sortN:=by
  intro kb h nl cl
  exact retH_ex A.f75 A.sort rfl
 comp:=by
  intro kb h k e l hg hb
  refine ⟨(List.replicate (l.length - (compI l).length) 0).map intA,retH_ex A.f76 A.comp ?_⟩
  simp only [big] at hb
  have hc:=compI_len l
  simp only [exComp,hg,List.length_map,Nat.zero_add,List.drop_zero]
  rw [if_pos ⟨trivial,Nat.le_refl _,hb⟩,List.take_of_length_le (by simp),intsOf_map]
  simp only [writeA,List.take_zero,List.nil_append,Nat.zero_add]
  have hd:List.drop ((compI l++List.replicate (l.length - (compI l).length) 0).map intA).length (l.map intA)=[]:=by
   rw [List.drop_eq_nil_iff];simp;omega
  rw [hd,List.append_nil,List.map_append]
 compN:=by
  intro kb h nl cl
  exact retH_ex A.f76 A.comp rfl
theorem c108 (A:Ora pg) (hf:pg.fs 108=some cf108) (i:Nat) (hi:i < 10):Ret pg 108 [.int .i64 i] (.str (loopN' i)):=by
 have h93:Ret pg 93 [.int .i64 (i:Int)] (.str [UInt8.ofNat (48+i)]):=by
  refine ret_ex A.f93 A.itoa ?_ rfl
  simp only [exItoa]
  rw [if_pos (by omega)]
  simp only [Int.toNat_natCast,digs]
  rw [if_pos hi]
 have h0:decide ((i:Int) < 0)=false:=by simp
 refine Ret.ofX hf ?_
 unfold cf108
 simp only [h0,go_sem,seval]
 refine XO_tree h93 (by simp only [go_sem,seval]) rfl ?_
 simp only [go_sem,seval]
 rfl
def nm:Bool→List UInt8→Bool
 | _,[]=>true
 | fst,c :: r=>(letter c||(!fst&&digit c))&&nm false r
theorem nm_all:∀ r,nm false r=r.all (fun x=>letter x||digit x)
 | []=>rfl
 | c :: r=>by simp [nm,nm_all r]
theorem nameU_plain {s:List UInt8} (h:s.head? ≠ some 95):nameU s=(nm true s&&(!decide (s=[])&&decide ((s.length:Int)≤30))):=by
 cases s with
 | nil=>rfl
 | cons c t=>
  have hc:c ≠ 95:=fun e=>h (by simp [e])
  simp only [nameU,if_neg hc,nm,nm_all]
  have:decide ((c :: t).length≤30)=decide (((c :: t).length:Int)≤30):=by
   rw [decide_eq_decide];omega
  rw [this]
  cases letter c<;>cases (t.all fun x=>letter x||digit x)<;>cases decide (((c :: t).length:Int)≤30)<;>rfl
theorem nameU_under (t:List UInt8):nameU (95 :: t)=atoiName t:=by
 rw [atoiName_eq]
 simp only [nameU,if_true,List.length_cons]
 cases h:decide (t.length+1≤10)
 ·simp
 ·have:t.length+1≤30:=by simp at h;omega
  simp [this]
set_option maxHeartbeats 8000000 in
theorem c57 (A:Ora pg) (hf:pg.fs 57=some cf57) (h91:pg.fs 91=some cf91) (h126:pg.fs 126=some cf126) (s:Str):Ret pg 57 [.str s.bs] (.bool (nameU s.bs)):=by
 obtain ⟨s,hb⟩:=s
 have a91:=c91 h91 h126 s [95]
 have hb':s.length≤16777216:=by simpa [big] using hb
 refine Ret.ofX hf ?_
 unfold cf57
 simp only [go_sem,seval]
 refine XO_tree a91 (by simp only [go_sem,seval]) rfl ?_
 cases hu:(decide ([(95:UInt8)].length≤s.length)&&decide (s.take [(95:UInt8)].length=[95]))
 case true=>
  obtain ⟨t,rfl⟩:∃ t,s=95 :: t:=by
   cases s with
   | nil=>simp at hu
   | cons c t=>simp at hu;exact ⟨t,by rw [hu]⟩
  have hlen:(((95:UInt8) :: t).length:Int)=(t.length:Int)+1:=by simp
  have hlen2:((t.length+1:Nat):Int)=(t.length:Int)+1:=by simp
  have hs1:∀ h,f_sls true false [.str (95 :: t),.int .i64 1]=some (.str t,.pat [] [])∧h=h:=fun (h:Hp)=>by
   refine ⟨?_,rfl⟩
   simp only [f_sls,optI,Bool.false_eq_true,if_false,if_true,Option.getD_none,Option.getD_some]
   rw [if_pos ⟨by omega,by simp;omega,by omega⟩]
   simp [val]
  have hs2:=(hs1 []).1
  have hn:nameU (95 :: t)=atoiName t:=nameU_under t
  have htl:t.length≤16777216:=by simp at hb';omega
  have hex:exAtoi [.str t] 0 []=(match Lib.atoiAll t with | .ok v=>some (.tup [.int .i64 v,.nili],[]) | .range=>some (.tup [.int .i64 (Lib.atoiSat t),.ifc .top],[]) | _=>some (.tup [.int .i64 0,.ifc .top],[])):=by
   simp only [exAtoi];rw [if_pos htl]
  rw [hn]
  simp only [↓hs2,go_sem,seval]
  cases hat:Lib.atoiAll t
  case range=>
   rw [hat] at hex
   refine XO_tree (ret_ex A.f92 A.atoi hex (by simp [AV.tree,treeL])) (by simp only [go_sem,seval]) rfl ?_
   simp only [go_sem,seval]
   refine And.intro (by kernel_rfl) ?_
   simp only [atoiName,hat]
  case ok v=>
   rw [hat] at hex
   refine XO_tree (ret_ex A.f92 A.atoi hex (by simp [AV.tree,treeL])) (by simp only [go_sem,seval]) rfl ?_
   have hres:atoiName t=(decide (0 < v)&&decide ((t.length:Int)+1≤10)&&decide (digs 20 v.toNat=t)):=by simp only [atoiName,hat]
   rw [hres]
   cases b1:decide (0 < v)
   case false=>
    simp only [b1,go_sem,seval]
    first | (refine And.intro (by kernel_rfl) ?_;rfl) | kernel_rfl
   have hv0:0 < v:=by simpa using b1
   have hvb:=Lib.atoiAll_bounds hat
   have hit:Ret pg 93 [.int .i64 v] (.str (digs 20 v.toNat)):=by
    refine ret_ex A.f93 A.itoa ?_ rfl
    simp only [exItoa]
    rw [if_pos (by omega)]
   cases b2:decide ((t.length:Int)+1≤10)
   case false=>
    simp only [b1,hlen,hlen2,b2,go_sem,seval]
    first | (refine And.intro (by kernel_rfl) ?_;rfl) | kernel_rfl
   simp only [b1,hlen,hlen2,b2,go_sem,seval]
   refine XO_tree hit (by simp only [go_sem,seval]) rfl ?_
   simp only [↓hs2,go_sem,seval]
   first | (refine And.intro (by kernel_rfl) ?_;rfl) | kernel_rfl
  rw [hat] at hex
  refine XO_tree (ret_ex A.f92 A.atoi hex (by simp [AV.tree,treeL])) (by simp only [go_sem,seval]) rfl ?_
  simp only [go_sem,seval]
  refine And.intro (by kernel_rfl) ?_
  simp only [atoiName,hat]
 case false=>
  have hh:s.head? ≠ some 95:=by
   intro he
   cases s with
   | nil=>simp at he
   | cons c t=>simp at he;subst he;simp at hu
  rw [nameU_plain hh]
  simp only [go_sem,seval]
  refine XX_listU s (fun d e=>setD e (some 36) (.int .i64 d.length)) (fun d r hp=>nm true s=nm d.isEmpty r) rfl ?_ ?_ ?_
  ·rfl
  ·rintro hp hI
   have:nm true s=true:=by rw [hI];simp [nm]
   rw [this]
   cases c1:decide (s=[])
   ·simp only [cf57L0,cf57M0,c1,go_sem,seval]
   ·simp only [cf57L0,cf57M0,c1,go_sem,seval]
  ·rintro d c r hp hes hI
   rw [hes] at hb hI
   have hw:=wr_mid hb
   rw [hes]
   have hnm:nm true (d++c :: r)=((letter c||(!d.isEmpty&&digit c))&&nm false r):=hI
   have hde:decide ((d.length:Int)=0)=d.isEmpty:=by
    cases d with
    | nil=>simp
    | cons x r=>simp;omega
   have happ:(d++[c]).isEmpty=false:=by simp
   have hlet:letter c=(!(decide ((c.toNat:Int) < 97)) && !(decide ((122:Int) < c.toNat))):=by
    simp only [letter]
    by_cases h1:97≤c.toNat<;>by_cases h2:c.toNat≤122<;>simp [h1,h2]<;>omega
   have hdig:digit c=(!(decide ((c.toNat:Int) < 48)) && !(decide ((57:Int) < c.toNat))):=by
    simp only [digit]
    by_cases h1:48≤c.toNat<;>by_cases h2:c.toNat≤57<;>simp [h1,h2]<;>omega
   rw [hlet,hdig] at hnm
   clear hlet hdig hI hes a91 hu hh hb'
   cases e1:decide ((c.toNat:Int) < 97)<;>cases e2:decide ((122:Int) < c.toNat)<;>cases e3:d.isEmpty<;>cases e4:decide ((c.toNat:Int) < 48)<;>cases e5:decide ((57:Int) < c.toNat)
   all_goals (rw [e1,e2,e3,e4,e5] at hnm)
   all_goals (rw [e3] at hde)
   all_goals (simp only [Bool.not_true,Bool.not_false,Bool.and_true,Bool.and_false,Bool.or_true,Bool.or_false,Bool.true_and,Bool.false_and] at hnm)
   all_goals (rw [hnm])
   all_goals (simp only [cf57L0,cf57M0,e1,e2,hde,e4,e5,hw,happ,go_sem,seval])
end
end Go.Tev
end
section
namespace Go.Tev
open Go.Sort
theorem insI_perm (x:Int):∀ l,(insI x l).Perm (x :: l)
 | []=>List.Perm.refl _
 | y :: r=>by
  simp only [insI]
  split
  ·exact List.Perm.refl _
  ·exact ((insI_perm x r).cons y).trans (List.Perm.swap x y r)
theorem sortI_perm:∀ l,(sortI l).Perm l
 | []=>List.Perm.refl _
 | x :: r=>(insI_perm x _).trans ((sortI_perm r).cons x)
theorem insI_sorted (x:Int):∀ l:List Int,l.Pairwise (· ≤ ·)→(insI x l).Pairwise (· ≤ ·)
 | [],_=>by simp [insI]
 | y :: r,h=>by
  simp only [insI]
  rw [List.pairwise_cons] at h
  split
  ·rename_i hxy
   rw [List.pairwise_cons]
   refine ⟨?_,List.pairwise_cons.2 h⟩
   intro a ha
   rcases List.mem_cons.1 ha with rfl | ha
   ·exact hxy
   ·exact Int.le_trans hxy (h.1 a ha)
  ·rename_i hxy
   rw [List.pairwise_cons]
   refine ⟨?_,insI_sorted x r h.2⟩
   intro a ha
   rcases (mem_insI x a r).1 ha with rfl | ha
   ·omega
   ·exact h.1 a ha
theorem sortI_sorted:∀ l:List Int,(sortI l).Pairwise (· ≤ ·)
 | []=>List.Pairwise.nil
 | x :: r=>insI_sorted x _ (sortI_sorted r)
theorem sorted_unique:∀ {a b:List Int},a.Perm b→a.Pairwise (· ≤ ·)→b.Pairwise (· ≤ ·)→a=b
 | [],b,h,_,_=>(List.Perm.nil_eq h)
 | x :: r,[],h,_,_=>absurd h.symm.nil_eq (by simp)
 | x :: r,y :: s,h,ha,hb=>by
  rw [List.pairwise_cons] at ha hb
  have h1:x≤y:=by
   have:y∈x :: r:=h.symm.subset (by simp)
   rcases List.mem_cons.1 this with rfl | hy
   ·exact Int.le_refl _
   ·exact ha.1 y hy
  have h2:y≤x:=by
   have:x∈y :: s:=h.subset (by simp)
   rcases List.mem_cons.1 this with rfl | hx
   ·exact Int.le_refl _
   ·exact hb.1 x hx
  obtain rfl:x=y:=by omega
  rw [sorted_unique (List.Perm.cons_inv h) ha.2 hb.2]
theorem sortI_eq (l:List Int):(l.mergeSort fun x y=>decide (x≤y))=sortI l:=by
 refine sorted_unique ((List.mergeSort_perm l _).trans (sortI_perm l).symm) ?_ (sortI_sorted l)
 have:=List.pairwise_mergeSort (le:=fun x y:Int=>decide (x≤y)) (by intro a b c h1 h2;simp at *;omega) (by intro a b;simp;omega) l
 exact this.imp (by intro a b h;simpa using h)
theorem compI_snoc (x:Int):∀ l:List Int,compI (l++[x])=compI l++(if l.getLast?=some x then [] else [x])
 | []=>by simp [compI]
 | [a]=>by
  simp only [List.cons_append,List.nil_append,compI,List.getLast?_singleton,Option.some.injEq]
  split<;>simp [*]
 | a :: b :: r=>by
  have ih:=compI_snoc x (b :: r)
  simp only [List.cons_append] at ih ⊢
  simp only [compI,ih,List.getLast?_cons_cons]
  split<;>simp
theorem compact_upTo (zs:List Int):∀ m,m≤zs.length→Lib.compactUpTo zs.toArray m=compI (zs.take m)
 | 0,_=>by simp [Lib.compactUpTo,compI]
 | m+1,h=>by
  have ih:=compact_upTo zs m (by omega)
  have hm:zs.toArray[m]! = zs[m]'(by omega):=by rw [getElem!_pos _ _ (by simp;omega)];simp
  rw [List.take_succ_eq_append_getElem (by omega),compI_snoc,← ih]
  simp only [Lib.compactUpTo,List.range_succ,List.filter_append,List.map_append]
  congr 1
  cases m with
  | zero=>
   simp [Lib.keeps,hm]
   rw [List.getElem?_eq_getElem (by omega)]
   rfl
  | succ k=>
   have hk:zs.toArray[k]! = zs[k]'(by omega):=by rw [getElem!_pos _ _ (by simp;omega)];simp
   have hl:(zs.take (k+1)).getLast?=some (zs[k]'(by omega)):=by
    rw [List.take_succ_eq_append_getElem (by omega)]
    exact List.getLast?_concat
   simp only [List.filter_cons,List.filter_nil,Lib.keeps,hm,hl]
   by_cases he:zs[k+1]'(by omega)=zs[k]'(by omega)
   ·simp [hk,he]
   ·have he':¬ zs[k]'(by omega)=zs[k+1]'(by omega):=fun h=>he h.symm
    simp [hk,he,he',hm]
    rw [List.getElem?_eq_getElem (by omega)]
    rfl
theorem compact_eq (zs:List Int):Lib.compact zs=compI zs:=by
 rw [Lib.compact,compact_upTo zs zs.length (Nat.le_refl _),List.take_length]
theorem decDigits_digs:∀ (f u:Nat),u < 10 ^ f→Lib.decDigits u=digs f u∨f=0
 | 0,u,_ => .inr rfl
 | f+1,u,h=>by
  left
  rw [digs,Lib.decDigits]
  by_cases h1:u < 10
  ·rw [dif_pos h1,if_pos h1]
  ·rw [dif_neg h1,if_neg h1]
   rcases decDigits_digs f (u / 10) (by rw [Nat.pow_succ] at h;omega) with h2 | h2
   ·rw [h2]
   ·subst h2;simp at h;omega
theorem itoa_digs {n:Int} (h0:0≤n) (h1:n≤9223372036854775807):Lib.itoa n=digs 20 n.toNat:=by
 rw [Lib.itoa,if_neg (by omega)]
 rcases decDigits_digs 20 n.toNat (by omega) with h | h
 ·exact h
 ·cases h
section
variable {P:Program} {num:Nat→Nat} {gl:Nat→Option AV} {gnum:Nat→Nat} {Fb:Nat→Prop} {B0:Nat} {ρ : Rho} {w w':World} {O:Nat→Prop} {h:Hp}
theorem below_evo (H:HpR num Fb B0 ρ w O h) (hb:RowKit.Below w.heap.size w w'):Evo ρ w O ρ w' O∧HpR num Fb B0 ρ w' O h:=by
 have ev:Evo ρ w O ρ w' O:=⟨hb.os,hb.tape,hb.output,hb.size,fun b h1 _=>hb.block b h1,fun _ _ h=>h,fun _ _ _ h=>h⟩
 exact ⟨ev,H.same ev (fun b hO=>hb.block b (H.own b hO).2)⟩
def FnOK (P:Program) (f:Nat):Prop:=∃ fn,P.funcs[f]?=some fn∧fn.body.isSome=true∧fn.name ≠ "runtime.NumGoroutine"
theorem all2_one {R:AV→Value→Prop} {x:AV} {vs:List Value} (h:All2 R [x] vs):∃ c,vs=[c]∧R x c:=by
 cases h with
 | cons h1 h2=>cases h2;exact ⟨_,rfl,h1⟩
theorem itoaOK (hfn:FnOK P (num 93)) (g:Nat) (hg:gl g=some (.agg (Lib.pow10Tab.map fun n => .int .u64 n)))
  (hc:∀ (n:Int),0≤n→n≤9223372036854775807→∀ w:World,(∃ T fr,w.heap[gnum g]?=some (.cells (Lib.pow10Tab.map fun z=>Value.int .u64 z).toArray T fr)) →
   Calls P (num 93) #[.int .i64 n] w fun e w'=>e = .returned (.string ⟨(Lib.itoa n).toArray⟩)∧RowKit.Below w.heap.size w w') :
  CallOK P num gl gnum (fun f' avs kb h=>if f'=93 then exItoa avs kb h else none):=by
 intro f avs kb h r h' hr
 dsimp only at hr
 split at hr
 case isFalse=>cases hr
 rename_i hf
 subst hf
 refine ⟨hfn,?_⟩
 intro Fb B0 ρ O w vs H hG hv
 unfold exItoa at hr
 split at hr
 case h_2=>cases hr
 rename_i n
 split at hr
 case isFalse=>cases hr
 rename_i hn
 cases hr
 obtain ⟨c,rfl,hrv⟩:=all2_one hv
 cases hrv
 have htab:∃ T fr,w.heap[gnum g]?=some (.cells (Lib.pow10Tab.map fun z=>Value.int .u64 z).toArray T fr):=by
  obtain ⟨⟨_,c,T,fr,h1,h2⟩,hp⟩:=hG g _ hg
  refine ⟨T,fr,?_⟩
  rw [h1]
  have hsz:c.size=Lib.pow10Tab.length:=by rw [h2];simp [AV.cells]
  have hce:c=(Lib.pow10Tab.map fun z=>Value.int .u64 z).toArray:=by
   apply Array.ext
   ·simp [hsz]
   ·intro i hi1 hi2
    obtain ⟨b,off,m,hx,hF,hb,hm,hr⟩:=hp.of_fp
    cases hx
    have hil:i < Lib.pow10Tab.length:=by omega
    have h3:=hm i (by simp only [AV.cells,List.length_map];exact hil)
    have h4:=hr i (.int .u64 (Lib.pow10Tab[i]'hil)) (by simp only [AV.cells,List.getElem?_map,List.getElem?_eq_getElem hil];rfl)
    rw [Nat.zero_add] at h3
    simp only [World.cell?,h1,Option.isSome_none,Bool.false_eq_true,if_false,Array.getElem?_eq_getElem hi1,Option.some.injEq] at h3
    rw [← h3] at h4
    have h5:=h4.of_int
    rw [h5]
    simp
  rw [hce]
 refine (hc n hn.1 hn.2 w htab).mono ?_
 rintro e w' ⟨rfl,hb⟩
 obtain ⟨ev,H'⟩:=below_evo H hb
 refine ⟨_,ρ,O,rfl,ev,H',?_⟩
 rw [itoa_digs hn.1 hn.2]
 exact .str _
theorem atoiOK (hfn:FnOK P (num 92)) (g1 g2:Nat) (hg1:gl g1=some (.ifc .top)) (hg2:gl g2=some (.ifc .top))
  (hok:∀ (s:List UInt8),s.length≤16777216→∀ v,Lib.atoiAll s = .ok v→∀ w:World,Calls P (num 92) #[.string ⟨s.toArray⟩] w fun e w'=>e = .returned (.tuple #[.int .i64 v,.nilIface])∧RowKit.Below w.heap.size w w')
  (hsy:∀ (s:List UInt8),s.length≤16777216→(∀ v,Lib.atoiAll s ≠ .ok v)→Lib.atoiAll s ≠ .range→∀ (w:World) (te:TypeId) (pe:Value),w.cell? ⟨gnum g1,0,none⟩=some (.iface te pe) →
   Calls P (num 92) #[.string ⟨s.toArray⟩] w fun e w'=>∃ t p,e = .returned (.tuple #[.int .i64 0,.iface t p])∧RowKit.Below w.heap.size w w')
  (hra:∀ (s:List UInt8),s.length≤16777216→Lib.atoiAll s = .range→∀ (w:World) (te:TypeId) (pe:Value),w.cell? ⟨gnum g2,0,none⟩=some (.iface te pe) →
   Calls P (num 92) #[.string ⟨s.toArray⟩] w fun e w'=>∃ t p,e = .returned (.tuple #[.int .i64 (Lib.atoiSat s),.iface t p])∧RowKit.Below w.heap.size w w') :
  CallOK P num gl gnum (fun f' avs kb h=>if f'=92 then exAtoi avs kb h else none):=by
 intro f avs kb h r h' hr
 dsimp only at hr
 split at hr
 case isFalse=>cases hr
 rename_i hf
 subst hf
 refine ⟨hfn,?_⟩
 intro Fb B0 ρ O w vs H hG hv
 have hcell:∀ g,gl g=some (.ifc .top)→∃ te pe,w.cell? ⟨gnum g,0,none⟩=some (.iface te pe):=by
  intro g hg
  obtain ⟨_,hp⟩:=hG g _ hg
  cases hp with
  | fp _ _ _ c hF hb hm hr=>
   have h1:=hm 0 (by simp [AV.cells])
   have h2:=hr 0 (.ifc .top) (by simp [AV.cells])
   simp only [Nat.add_zero] at h1
   rw [h1]
   generalize c 0=ci at h2 ⊢
   cases h2
   exact ⟨_,_,rfl⟩
 unfold exAtoi at hr
 split at hr
 case h_2=>cases hr
 rename_i s
 split at hr
 case isFalse=>cases hr
 rename_i hs
 obtain ⟨c,rfl,hrv⟩:=all2_one hv
 cases hrv
 split at hr
 ·rename_i v ha
  cases hr
  refine (hok s hs v ha w).mono ?_
  rintro e w' ⟨rfl,hb⟩
  obtain ⟨ev,H'⟩:=below_evo H hb
  refine ⟨_,ρ,O,rfl,ev,H',?_⟩
  refine .tup _ _ rfl ?_
  intro i x y hx hy
  match i,hx,hy with
  | 0,hx,hy=>simp at hx hy;subst hx;subst hy;exact .int _ _
  | 1,hx,hy=>simp at hx hy;subst hx;subst hy;exact .nili
  | i+2,hx,hy=>simp at hx
 ·rename_i ha
  cases hr
  obtain ⟨te,pe,hce⟩:=hcell g2 hg2
  refine (hra s hs ha w te pe hce).mono ?_
  rintro e w' ⟨t,p,rfl,hb⟩
  obtain ⟨ev,H'⟩:=below_evo H hb
  refine ⟨_,ρ,O,rfl,ev,H',?_⟩
  refine .tup _ _ rfl ?_
  intro i x y hx hy
  match i,hx,hy with
  | 0,hx,hy=>simp at hx hy;subst hx;subst hy;exact .int _ _
  | 1,hx,hy=>simp at hx hy;subst hx;subst hy;exact .ifc _ _ _ (.top _)
  | i+2,hx,hy=>simp at hx
 ·rename_i ha1 ha2
  cases hr
  obtain ⟨te,pe,hce⟩:=hcell g1 hg1
  refine (hsy s hs (fun v e=>ha1 v e) (fun e=>ha2 e) w te pe hce).mono ?_
  rintro e w' ⟨t,p,rfl,hb⟩
  obtain ⟨ev,H'⟩:=below_evo H hb
  refine ⟨_,ρ,O,rfl,ev,H',?_⟩
  refine .tup _ _ rfl ?_
  intro i x y hx hy
  match i,hx,hy with
  | 0,hx,hy=>simp at hx hy;subst hx;subst hy;exact .int _ _
  | 1,hx,hy=>simp at hx hy;subst hx;subst hy;exact .ifc _ _ _ (.top _)
  | i+2,hx,hy=>simp at hx
theorem intsOf_eq:∀ {cs:List AV} {zs:List Int},intsOf cs=some zs→cs=zs.map intA
 | [],zs,h=>by simp [intsOf] at h;subst h;rfl
 | x :: r,zs,h=>by
  cases x with
  | int k n=>
   cases k<;>simp only [intsOf] at h
   case i64=>
    simp only [Option.map_eq_some_iff] at h
    obtain ⟨l,h1,rfl⟩:=h
    rw [intsOf_eq h1];rfl
   all_goals cases h
  | _=>simp [intsOf] at h
end
end Go.Tev
end
section
namespace Go.Tev
open Go.Sort
section
variable {P:Program} {num:Nat→Nat} {gl:Nat→Option AV} {gnum:Nat→Nat} {Fb:Nat→Prop} {B0:Nat} {ρ : Rho} {w w':World} {O:Nat→Prop} {h:Hp}
theorem Rv.int_eq {F:Nat→Prop} {n:Int} {y:Value} (h:Rv num ρ w F (intA n) y):y = .int .i64 n:=by
 have h':Rv num ρ w F (.int .i64 n) y:=h
 cases h';rfl
theorem rowHolds {k e off len:Nat} {cs:List AV} {esz:Nat} {ag ti fz:Bool} {L:Loc} {zs:List Int} (H:HpR num Fb B0 ρ w O h) (hg:h.get k=some (e,.blk cs esz ag ti fz)) (hL : ρ k e=some L)
  (hz:(cs.drop off).take len=zs.map intA) (hl:off+len≤cs.length):Holds (Value.int .i64) w L.b (L.base+off) zs.toArray∧L.b < w.heap.size∧zs.length=len:=by
 obtain ⟨L0,c,T,h1,h2,h3,h4,h5,h6,h7,h8,h9,h10⟩:=H.blk _ _ _ _ _ _ _ hg
 rw [h1] at hL;cases hL
 have hzl:zs.length=len:=by
  have:=congrArg List.length hz
  simp at this;omega
 refine ⟨?_,?_,hzl⟩
 ·intro j hj
  have hj':j < zs.length:=by simpa using hj
  have hx:cs[off+j]?=some (intA (zs[j]'hj')):=by
   have:=congrArg (fun l:List AV=>l[j]?) hz
   simp only [List.getElem?_map,List.getElem?_take,List.getElem?_drop,List.getElem?_eq_getElem hj',Option.map_some] at this
   rw [if_pos (by omega)] at this
   exact this
  obtain ⟨y,hy,hr⟩:=h7 _ _ hx
  have hy2:=hr.int_eq
  subst hy2
  refine ⟨?_,?_⟩
  ·simp only [World.cell?,h4,Option.isSome_none,Bool.false_eq_true,if_false]
   rw [Nat.add_assoc,hy,getElem!_pos zs.toArray j hj]
   simp
  ·simp [World.frozen?,h4]
 ·by_cases hlt:L.b < w.heap.size
  ·exact hlt
  ·simp [Array.getElem?_eq_none (Nat.le_of_not_lt hlt)] at h4
theorem rowPut {k e off len n:Nat} {cs:List AV} {esz:Nat} {ag ti:Bool} {L:Loc} {zs:List Int} (H:HpR num Fb B0 ρ w O h) (hg:h.get k=some (e,.blk cs esz ag ti false)) (hL : ρ k e=some L)
  (hz:zs.length=len) (hl:off+len≤cs.length) :
  Evo ρ w O ρ (putRow (Value.int .i64) (Sort.ahead w n) L.b (L.base+off) zs.toArray) O∧HpR num Fb B0 ρ (putRow (Value.int .i64) (Sort.ahead w n) L.b (L.base+off) zs.toArray) O (h.put k e (.blk (writeA cs off (zs.map intA)) esz ag ti false)):=by
 obtain ⟨L0,c,T,h1,h2,h3,h4,h5,h6,h7,h8,h9,h10⟩:=H.blk _ _ _ _ _ _ _ hg
 rw [h1] at hL;cases hL
 have hget:∀ i,(putCells (Value.int .i64) (L.base+off) zs.toArray c)[i]?=(c[i]?).map fun x=>if L.base+off≤i∧i < L.base+off+zs.length then .int .i64 zs.toArray[i - (L.base+off)]! else x:=by
  intro i
  simp only [putCells,Array.getElem?_mapIdx,List.size_toArray]
 refine H.write (c':=putCells (Value.int .i64) (L.base+off) zs.toArray c) (T:=T) hg h1 ⟨rfl,rfl,rfl,?_,?_,?_⟩ ?_ ?_ ?_
 ·simp [putRow,mapBlock,Sort.ahead]
 ·simp only [putRow,mapBlock,Sort.ahead,Array.getElem?_modify,if_true,h4,Option.map_some,onCells]
 ·intro b hb
  simp only [putRow,mapBlock,Sort.ahead,Array.getElem?_modify]
  rw [if_neg (fun h=>hb h.symm)]
 ·simp only [putCells,Array.size_mapIdx];exact h5
 ·simp only [writeA,List.length_append,List.length_take,List.length_drop,List.length_map];omega
 ·intro i x hx
  rw [hget]
  simp only [writeA,List.append_assoc] at hx
  by_cases hi1:i < off
  ·rw [List.getElem?_append_left (by simp;omega),List.getElem?_take,if_pos hi1] at hx
   obtain ⟨y,hy,hr⟩:=h7 _ _ hx
   refine ⟨y,?_,hr⟩
   rw [hy,Option.map_some,if_neg (by omega)]
  ·rw [List.getElem?_append_right (by simp;omega)] at hx
   have htk:(cs.take off).length=off:=by simp;omega
   rw [htk] at hx
   by_cases hi2:i < off+len
   ·rw [List.getElem?_append_left (by simp;omega),List.getElem?_map] at hx
    have hlt:i - off < zs.length:=by omega
    rw [List.getElem?_eq_getElem hlt,Option.map_some] at hx
    cases hx
    have hcs:i < cs.length:=by omega
    obtain ⟨y,hy,_⟩:=h7 i _ (List.getElem?_eq_getElem hcs)
    refine ⟨_,by rw [hy,Option.map_some,if_pos (by omega)],?_⟩
    have e1:L.base+i - (L.base+off)=i - off:=by omega
    rw [e1,getElem!_pos zs.toArray (i - off) (by simpa using hlt)]
    simp only [List.getElem_toArray]
    exact .int _ _
   ·rw [List.getElem?_append_right (by simp;omega),List.getElem?_drop] at hx
    have e2:off+(zs.map intA).length+(i - off - (zs.map intA).length)=i:=by simp;omega
    rw [e2] at hx
    obtain ⟨y,hy,hr⟩:=h7 _ _ hx
    refine ⟨y,?_,hr⟩
    rw [hy,Option.map_some,if_neg (by omega)]
theorem grow_below (w:World) (os:Array Obj):RowKit.Below w.heap.size w (grow w os) where
 os:=rfl
 tape:=rfl
 output:=rfl
 size:=by simp [grow]
 block:=fun k hk=>by simp [grow,Array.getElem?_append_left hk]
theorem sortOK (hfn:FnOK P (num 75))
  (hc:∀ (blk off cap:Nat) (zs:List Int) (w:World),Holds (Value.int .i64) w blk off zs.toArray→blk < w.heap.size→zs.length≤16777216 →
   Calls P (num 75) #[.slice (some ⟨blk,off,none⟩) zs.length cap] w fun e w'=>e = .returned (.tuple #[])∧∃ n os,w'=grow (putRow (Value.int .i64) (Sort.ahead w n) blk off (sortI zs).toArray) os)
  (hn:∀ (p:Option Addr) (cap:Nat) (w:World),Calls P (num 75) #[.slice p 0 cap] w fun e w'=>e = .returned (.tuple #[])∧w'=w) :
  CallOK P num gl gnum (fun f' avs kb h=>if f'=75 then exSort avs kb h else none):=by
 intro f avs kb h r h' hr
 dsimp only at hr
 split at hr
 case isFalse=>cases hr
 rename_i hf
 subst hf
 refine ⟨hfn,?_⟩
 intro Fb B0 ρ O w vs H hG hv
 have htup:∀ {ρ : Rho} {w:World} {F:Nat→Prop},Rv num ρ w F (.tup []) (.tuple #[]):=.tup _ _ rfl (fun i x y hx=>by simp at hx)
 unfold exSort at hr
 split at hr
 ·cases hr
  obtain ⟨c,rfl,hrv⟩:=all2_one hv
  have:∃ p cap,c = .slice p 0 cap:=by cases hrv<;>exact ⟨_,_,rfl⟩
  obtain ⟨p,cap,rfl⟩:=this
  refine (hn p cap w).mono ?_
  rintro e w' ⟨rfl,rfl⟩
  exact ⟨_,ρ,O,rfl,Evo.refl _ _ _,H,htup⟩
 ·rename_i k e off len cap
  split at hr
  case h_2=>cases hr
  rename_i e' cs ti hg
  split at hr
  case isFalse=>cases hr
  rename_i hcond
  obtain ⟨rfl,hle,hbig⟩:=hcond
  split at hr
  case h_2=>cases hr
  rename_i zs hzs
  cases hr
  obtain ⟨c,rfl,hrv⟩:=all2_one hv
  cases hrv with
  | rf _ _ _ _ _ cap' L hL hlen hcap ht hroom=>
   obtain ⟨hH,hb,hzl⟩:=rowHolds H hg hL (intsOf_eq hzs) hle
   have hcall:=hc L.b (L.base+off) cap' zs w hH hb (by omega)
   rw [hzl] at hcall
   refine hcall.mono ?_
   rintro e w' ⟨rfl,n,os,rfl⟩
   obtain ⟨ev,H1⟩:=rowPut (n:=n) H hg hL (zs:=sortI zs) (by rw [sortI_len];exact hzl) hle
   obtain ⟨ev2,H2⟩:=below_evo H1 (grow_below _ os)
   exact ⟨_,ρ,O,rfl,ev.trans ev2,H2,htup⟩
 ·cases hr
theorem compOK (hfn:FnOK P (num 76))
  (hc:∀ (blk off cap:Nat) (zs:List Int) (w:World),Holds (Value.int .i64) w blk off zs.toArray→zs.length≤16777216→zs.length≤cap →
   Calls P (num 76) #[.slice (some ⟨blk,off,none⟩) zs.length cap] w fun e w'=>e = .returned (.slice (some ⟨blk,off,none⟩) (compI zs).length cap)∧∃ q,w'=putRow (Value.int .i64) (Sort.ahead w q) blk off (compI zs++List.replicate (zs.length - (compI zs).length) 0).toArray)
  (hn:∀ (p:Option Addr) (cap:Nat) (w:World),Calls P (num 76) #[.slice p 0 cap] w fun e w'=>e = .returned (.slice p 0 cap)∧w'=w) :
  CallOK P num gl gnum (fun f' avs kb h=>if f'=76 then exComp avs kb h else none):=by
 intro f avs kb h r h' hr
 dsimp only at hr
 split at hr
 case isFalse=>cases hr
 rename_i hf
 subst hf
 refine ⟨hfn,?_⟩
 intro Fb B0 ρ O w vs H hG hv
 unfold exComp at hr
 split at hr
 ·cases hr
  obtain ⟨c,rfl,hrv⟩:=all2_one hv
  have:∃ p cap,c = .slice p 0 cap:=by cases hrv<;>exact ⟨_,_,rfl⟩
  obtain ⟨p,cap,rfl⟩:=this
  refine (hn p cap w).mono ?_
  rintro e w' ⟨rfl,rfl⟩
  exact ⟨_,ρ,O,rfl,Evo.refl _ _ _,H,hrv⟩
 ·rename_i k e off len cap
  split at hr
  case h_2=>cases hr
  rename_i e' cs ti hg
  split at hr
  case isFalse=>cases hr
  rename_i hcond
  obtain ⟨rfl,hle,hbig⟩:=hcond
  split at hr
  case h_2=>cases hr
  rename_i zs hzs
  cases hr
  obtain ⟨c,rfl,hrv⟩:=all2_one hv
  cases hrv with
  | rf _ _ _ _ _ cap' L hL hlen hcap ht hroom=>
   obtain ⟨hH,hb,hzl⟩:=rowHolds H hg hL (intsOf_eq hzs) hle
   have hcl:=compI_len zs
   have hcall:=hc L.b (L.base+off) cap' zs w hH (by omega) (by omega)
   rw [hzl] at hcall
   refine hcall.mono ?_
   rintro e w' ⟨rfl,n,rfl⟩
   have hln:(compI zs++List.replicate (zs.length - (compI zs).length) 0).length=len:=by simp;omega
   obtain ⟨ev,H1⟩:=rowPut (n:=n) H hg hL hln hle
   rw [hzl] at ev H1 ⊢
   exact ⟨_,ρ,O,rfl,ev,H1,.rf _ _ _ _ _ cap' L hL (by omega) hcap ht hroom⟩
 ·cases hr
end
end Go.Tev
end
section
namespace Go.Tev
def ascC:List AV:=(List.range 256).map fun i => .bool (decide (48≤i)&&decide (i≤57))
theorem ascC_len:ascC.length=256:=by simp [ascC]
theorem ascC_get (c:UInt8):ascC[c.toNat]?=some (.bool (digit c)):=by
 have h:=UInt8.toNat_lt c
 simp only [ascC,List.getElem?_map]
 rw [List.getElem?_range h]
 rfl
def trimR (s:List UInt8):List UInt8:=(s.reverse.dropWhile digit).reverse
theorem trimR_snoc (s:List UInt8) (c:UInt8):trimR (s++[c])=if digit c then trimR s else s++[c]:=by
 simp only [trimR,List.reverse_append,List.reverse_cons,List.reverse_nil,List.nil_append,List.singleton_append,List.dropWhile_cons]
 split<;>simp
theorem all_of_trimR:∀ (n:Nat) (s:List UInt8),s.length=n→(trimR s=[]∧s.all digit=true)∨(∃ t c,trimR s=t++[c]∧digit c=false∧s.all digit=false)
 | 0,s,h=>by
  obtain rfl:=List.eq_nil_of_length_eq_zero h
  exact .inl ⟨rfl,rfl⟩
 | n+1,s,h=>by
  obtain ⟨t,c,rfl⟩:∃ l' c,s=l'++[c]:=by
   rcases List.eq_nil_or_concat s with h' | ⟨l',c,h'⟩
   ·subst h';simp at h
   ·exact ⟨l',c,by simpa using h'⟩
  rw [trimR_snoc]
  cases hc:digit c
  ·exact .inr ⟨t,c,by simp,hc,by simp [hc]⟩
  ·rcases all_of_trimR n t (by simpa using h) with ⟨h1,h2⟩ | ⟨u,d,h1,h2,h3⟩
   ·exact .inl ⟨by simpa using h1,by simp [h2,hc]⟩
   ·exact .inr ⟨u,d,by simpa using h1,h2,by simp [h3]⟩
theorem dropW_last (t:List UInt8) (c:UInt8) (h:digit c=false):(t++[c]).dropWhile digit ≠ []:=by
 induction t with
 | nil=>simp [h]
 | cons x r ih=>
  simp only [List.cons_append,List.dropWhile_cons]
  split
  ·exact ih
  ·simp
theorem trim_nil (s:List UInt8):decide ((trimR s).dropWhile digit=[])=s.all digit:=by
 rcases all_of_trimR s.length s rfl with ⟨h1,h2⟩ | ⟨t,c,h1,h2,h3⟩
 ·rw [h1,h2];rfl
 ·rw [h1,h3];simpa using dropW_last t c h2
section
variable {pg:Pg}
theorem c171 (hf:pg.fs 171=some cf171) (c:UInt8):Ret pg 171 [.fp (.agg ascC),.int .u8 c.toNat] (.bool (digit c)):=by
 have h:=UInt8.toNat_lt c
 have e1:(0≤(c.toNat:Int))=True:=eq_true (by omega)
 have e2:((c.toNat:Int) < ((256:Nat):Int))=True:=eq_true (by omega)
 have e3:((c.toNat:Int) < 256)=True:=eq_true (by omega)
 refine Ret.ofX hf ?_
 unfold cf171
 have hg:=ascC_get c
 simp only [e1,e2,e3,Nat.mul_one,hg,go_sem,seval]
theorem c132 (hf:pg.fs 132=some cf132):Ret pg 132 [.str [48,49,50,51,52,53,54,55,56,57]] (.tup [.agg ascC,.bool true]):=
 Ret.closed (.n 132 cf132 .e .e) (by intro f cf h;have:=BT.All.find (p:=fun f cf=>pg.fs f=some cf) (t:=.n 132 cf132 .e .e) ⟨hf,trivial,trivial⟩ h;exact this) 14 (by kernel_rfl)
theorem c134 (hf:pg.fs 134=some cf134) (h171:pg.fs 171=some cf171) (s:List UInt8) (hb:s.length≤big):Ret pg 134 [.str s,.fp (.agg ascC)] (.str (trimR s)):=by
 have htr:treeL ascC=true:=by simp only [ascC];exact treeL_map (f:=fun i=>AV.bool (decide (48≤i)&&decide (i≤57))) (fun i=>by simp [AV.tree]) _
 refine Ret.ofX hf ?_
 unfold cf134
 simp only [go_sem,seval]
 refine XX_rounds (α:=List UInt8) (fun t=>t.length) (fun t env hp=>env=cf134E0 (.str t) (.fp (.agg ascC))∧trimR t=trimR s∧t.length≤big) s ⟨rfl,rfl,hb⟩ ?_
 rintro t env hp ⟨rfl,ht,hbt⟩
 rcases List.eq_nil_or_concat t with h | ⟨u,c,h⟩
 ·subst h
  simp only [cf134L0,cf134E0,go_sem,seval]
  rw [← ht];rfl
 ·rw [List.concat_eq_append] at h
  subst h
  have a:=c171 h171 c
  have hw:wr .i64 (((u++[c]).length:Int) - 1)=(u.length:Int):=by
   simp only [List.length_append,List.length_cons,List.length_nil,big] at *
   rw [wr_small (by omega) (by omega)];omega
  have e0:decide (0 < (((u++[c]).length:Nat):Int))=true:=by simp
  have e1:(0≤(u.length:Int))=True:=eq_true (by omega)
  have hg:(u++[c])[u.length]?=some c:=by simp
  have hs1:∀ h:Hp,f_sls false true [.str (u++[c]),.int .i64 (u.length:Int)]=some (.str u,.pat [] [])∧h=h:=fun (h:Hp)=>by
   refine ⟨?_,rfl⟩
   simp only [f_sls,optI,Bool.false_eq_true,if_false,if_true,Option.getD_none,Option.getD_some]
   rw [if_pos ⟨by omega,by omega,by simp;omega⟩]
   simp [val]
  have hs2:=(hs1 []).1
  rw [trimR_snoc] at ht
  simp only [cf134L0,cf134E0,e0,hw,e1,hg,go_sem,seval]
  refine XO_tree a (by simp only [htr,go_sem,seval]) rfl ?_
  cases hd:digit c
  ·simp only [go_sem,seval]
   rw [← ht,hd]
   rfl
  ·simp only [hw,↓hs2,go_sem,seval]
   refine ⟨u,by simp,rfl,?_,by simp at hbt;omega⟩
   rw [← ht,hd];rfl
theorem c133 (hf:pg.fs 133=some cf133) (h171:pg.fs 171=some cf171) (s:List UInt8):Ret pg 133 [.str s,.fp (.agg ascC)] (.str (s.dropWhile digit)):=by
 have htr:treeL ascC=true:=by simp only [ascC];exact treeL_map (f:=fun i=>AV.bool (decide (48≤i)&&decide (i≤57))) (fun i=>by simp [AV.tree]) _
 refine Ret.ofX hf ?_
 unfold cf133
 simp only [go_sem,seval]
 refine XX_rounds (α:=List UInt8) (fun t=>t.length) (fun t env hp=>env=cf133E0 (.str t) (.fp (.agg ascC))∧t.dropWhile digit=s.dropWhile digit) s ⟨rfl,rfl⟩ ?_
 rintro t env hp ⟨rfl,ht⟩
 cases t with
 | nil=>
  simp only [cf133L0,cf133E0,go_sem,seval]
  rw [← ht];rfl
 | cons c u=>
  have a:=c171 h171 c
  have e0:decide (0 < (((c :: u).length:Nat):Int))=true:=by simp
  have e0':decide ((0:Int) < ((u.length+1:Nat):Int))=true:=by simp
  have hs2:f_sls true false [.str (c :: u),.int .i64 1]=some (.str u,.pat [] []):=by
   simp only [f_sls,optI,Bool.false_eq_true,if_false,if_true,Option.getD_none,Option.getD_some]
   rw [if_pos ⟨by omega,by simp;omega,by omega⟩]
   simp [val]
  rw [List.dropWhile_cons] at ht
  simp only [cf133L0,cf133E0,e0,e0',go_sem,seval]
  refine XO_tree a (by simp only [htr,go_sem,seval]) rfl ?_
  cases hd:digit c
  ·simp only [go_sem,seval]
   rw [← ht,hd]
   rfl
  ·simp only [↓hs2,go_sem,seval]
   refine ⟨u,by simp,rfl,?_⟩
   rw [← ht,hd];rfl
set_option maxRecDepth 100000 in
set_option maxHeartbeats 8000000 in
theorem c94 (hf:pg.fs 94=some cf94) (h132:pg.fs 132=some cf132) (h133:pg.fs 133=some cf133) (h134:pg.fs 134=some cf134) (h171:pg.fs 171=some cf171) (s:List UInt8) (hb:s.length≤big) :
  Ret pg 94 [.str s,.str [48,49,50,51,52,53,54,55,56,57]] (.str ((trimR s).dropWhile digit)):=by
 have a1:=c132 h132
 have a2:=c134 h134 h171 s hb
 have a3:=c133 h133 h171 (trimR s)
 have htr:treeL ascC=true:=by simp only [ascC];exact treeL_map (f:=fun i=>AV.bool (decide (48≤i)&&decide (i≤57))) (fun i=>by simp [AV.tree]) _
 refine Ret.ofX hf ?_
 unfold cf94
 cases h0:decide (s=[])
 case true=>
  have:s=[]:=by simpa using h0
  subst this
  simp only [go_sem,seval]
  rfl
 simp only [h0,go_sem,seval]
 refine XO_tree a1 (by simp only [go_sem,seval]) rfl ?_
 have hone:allOne ascC=true:=by
  simp only [ascC]
  have:∀ l:List Nat,allOne (l.map fun i=>AV.bool (decide (48≤i)&&decide (i≤57)))=true:=by
   intro l
   induction l with
   | nil=>rfl
   | cons x r ih=>simp only [List.map_cons,allOne,ih];rfl
  exact this _
 have hsn:∀ H:Hp,H.get 13=some (0,.blk ascC 256 true true false)→mapS (Tev.snap depth H) [.str s,.pt 13 0 0]=some ([.str s,.fp (.agg ascC)],[13])∧mapS (Tev.snap depth H) [.str (trimR s),.pt 13 0 0]=some ([.str (trimR s),.fp (.agg ascC)],[13]):=by
  intro H hg
  have h1:mapS (Tev.snap 62 H) ascC=some (ascC,[]):=mapS_tree 61 H htr
  have h2:Tev.snap 64 H (.pt 13 0 0)=some (.fp (.agg ascC),[13]):=by
   have h3:mapS (Tev.snap 63 H) ascC=some (ascC,[]):=mapS_tree 62 H htr
   rw [snapX]
   simp [hg,h3,AV.tree,ascC_len]
  have h4:∀ u:List UInt8,Tev.snap 64 H (.str u)=some (.str u,[]):=fun u=>by rw [snapX,if_pos (by simp [AV.tree])]
  constructor<;>(rw [mapS_cons,depth,h4,mapS_cons,h2,mapS_nil];simp)
 simp only [ascC_len,hone,go_sem,seval]
 refine XO_call a2 (hsn _ (by simp only [go_sem,seval])).1 rfl ?_
 simp only [go_sem,seval]
 refine XO_call a3 (hsn _ (by simp only [go_sem,seval])).2 rfl ?_
 simp only [go_sem,seval]
theorem base_of (A:Ora pg) (h57:pg.fs 57=some cf57) (h91:pg.fs 91=some cf91) (h126:pg.fs 126=some cf126) (h108:pg.fs 108=some cf108)
  (h94:pg.fs 94=some cf94) (h132:pg.fs 132=some cf132) (h133:pg.fs 133=some cf133) (h134:pg.fs 134=some cf134) (h171:pg.fs 171=some cf171):Base pg where
 name:=c57 A h57 h91 h126
 trim:=fun s hb=>⟨_,c94 h94 h132 h133 h134 h171 s hb,trim_nil s⟩
 loop:=c108 A h108
end
end Go.Tev
end
