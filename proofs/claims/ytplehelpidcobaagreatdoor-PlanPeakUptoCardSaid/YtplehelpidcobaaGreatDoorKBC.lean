import Derived.Test.YtplehelpidcobaaGreatDoorKAX
import Derived.Test.YtplehelpidcobaaGreatDoorKBB
import Derived.Test.YtplehelpidcobaaGreatDoorKAR
import Derived.Test.YtplehelpidcobaaGreatDoorKAH
import Derived.Test.YtplehelpidcobaaGreatDoorKAM
import Derived.Test.YtplehelpidcobaaGreatDoorKAU
set_option linter.all false
section
namespace Go.Tev
structure Code3 (pg:Pg):Prop where
 f10:pg.fs 10=some cf10
 f15:pg.fs 15=some cf15
 f22:pg.fs 22=some cf22
 f31:pg.fs 31=some cf31
 f37:pg.fs 37=some cf37
 f38:pg.fs 38=some cf38
 f49:pg.fs 49=some cf49
 f50:pg.fs 50=some cf50
 f54:pg.fs 54=some cf54
 f55:pg.fs 55=some cf55
 f77:pg.fs 77=some cf77
 f78:pg.fs 78=some cf78
 f79:pg.fs 79=some cf79
 f80:pg.fs 80=some cf80
 f81:pg.fs 81=some cf81
 f82:pg.fs 82=some cf82
 f83:pg.fs 83=some cf83
 f84:pg.fs 84=some cf84
 f85:pg.fs 85=some cf85
 f86:pg.fs 86=some cf86
 f87:pg.fs 87=some cf87
 f88:pg.fs 88=some cf88
 f90:pg.fs 90=some cf90
 f114:pg.fs 114=some cf114
 f115:pg.fs 115=some cf115
 f116:pg.fs 116=some cf116
 f117:pg.fs 117=some cf117
 f118:pg.fs 118=some cf118
 f119:pg.fs 119=some cf119
 f120:pg.fs 120=some cf120
 f121:pg.fs 121=some cf121
 f122:pg.fs 122=some cf122
 f123:pg.fs 123=some cf123
 f124:pg.fs 124=some cf124
 f125:pg.fs 125=some cf125
 f160:pg.fs 160=some cf160
 f161:pg.fs 161=some cf161
 f162:pg.fs 162=some cf162
 f163:pg.fs 163=some cf163
 f164:pg.fs 164=some cf164
 f191:pg.fs 191=some cf191
 f192:pg.fs 192=some cf192
 f193:pg.fs 193=some cf193
 f194:pg.fs 194=some cf194
section
variable {pg:Pg}
theorem WL (C:Go.Tev.Code pg) (D:Code3 pg) (k:aA) (hq:∀ q∈k.list.es,q.body.ok/\q.index.ok/\k.vars.es.length+9+q.body.sz<=big/\k.vars.es.length+9+q.index.sz<=big) :
  Ret pg 31 [k.av] (.tup [.int .i64 (cR k).1,.int .i64 (cR k).2]):=by
 have h77:∀ s:Str,Ret pg 77 [.str s.bs] (.bool (fM s.bs)):=fun s=>c77 D.f77 D.f114 D.f115 s.bs s.ok
 have h54:∀ l:Lin,Ret pg 54 [l.av] (.bool (d6 l)):=c54 D.f54 h77 D.f90
 have h80:∀ (nl cl:Bool) (ls:List Lin),ls.length<=big->∀ (nl' cl':Bool) (vars:List Str),vars.length<=big->Ret pg 80 [.sl nl (ls.map Lin.av) cl,.sl nl' (vars.map Str.av) cl'] (.bool (bU ls vars)):=
  fun nl cl ls hb nl' cl' vars hb'=>c80 D.f80 h54 nl cl ls hb nl' cl' vars hb'
 have h79:=c79 D.f79 (c116 D.f116 D.f160) (c117 D.f117 h54 h77)
 have h49:=c49 D.f49 h77 D.f78 h79 h80
 have h121:=c121 D.f121 D.f162 D.f191
 have h118:=c118 D.f118 D.f161 D.f15 h121
 have h85:∀ (nl cl nl' cl':Bool) (a b:List Lin),a.length<=big->b.length<=big->Ret pg 85 [.sl nl (a.map Lin.av) cl,.sl nl' (b.map Lin.av) cl'] (.bool (eqL bL a b)):=fun nl cl nl' cl' a b ha hb=>c85 D.f85 h121 nl cl nl' cl' a b ha hb
 have h81:∀ x y:aD,x.body.ok->x.index.ok->Ret pg 81 [x.av,y.av] (.bool (jK x y)):=fun x y hx hi=>c81 D.f81 D.f85 h121 h118 D.f119 x y hx hi
 have h125:=c125 D.f125
 have h120:∀ (op:List UInt8) (nl cl:Bool) (kids:List Bool),kids.length<=big->Ret pg 120 [.str op,.sl nl (kids.map AV.bool) cl] (.bool (eS op kids)):=fun op nl cl kids hb=>c120 D.f120 h125 op nl cl kids hb
 have h84:∀ (nl cl:Bool) (code:List aJ),code.length<=16777216->∀ (nl' cl':Bool) (args:List Bool),args.length<=16777216->Ret pg 84 [.sl nl (code.map aJ.av) cl,.sl nl' (args.map AV.bool) cl'] (.bool (cY code args)):=
  fun nl cl code hb nl' cl' args hb'=>c84 D.f84 h120 nl cl code hb nl' cl' args hb'
 have h83:∀ (nl cl:Bool) (vals:List Typ) (p:aC),p.ok->Ret pg 83 [p.av,.sl nl (vals.map Typ.av) cl] (.bool (dW vals p)):=fun nl cl vals p hp=>c83 D.f83 h84 h120 nl cl vals p hp
 have h87:∀ (nl cl:Bool) (fn:List aJ),fn.length<=big->∀ n:Int,Ret pg 87 [.sl nl (fn.map aJ.av) cl,.int .i64 n] (.bool (cM fn n)):=fun nl cl fn hb n=>c87 D.f87 D.f124 h125 nl cl fn hb n
 have h88:=c88 D.f88 h121
 have h192:=c192 D.f192 h125
 have h193:∀ (nl cl:Bool) (ls:List Lin),ls.length<=big->∀ (nl' cl':Bool) (vars:List Str),vars.length<=big->Ret pg 193 [.sl nl (ls.map Lin.av) cl,.sl nl' (vars.map Str.av) cl'] (.bool (bU ls vars)):=
  fun nl cl ls hb nl' cl' vars hb'=>c193 D.f193 h54 D.f194 nl cl ls hb nl' cl' vars hb'
 have h164:=c164 D.f164 h192 h118 h193 D.f124 h77 D.f194 h87
 have h123:∀ p:aC,p.ok->∀ (nl cl:Bool) (vars:List Str),vars.length+p.sz<=big->∀ v:Int,Ret pg 123 [p.av,.sl nl (vars.map Str.av) cl,.int .i64 v] (.bool (gG p vars v)):=
  fun p hp nl cl vars hb v=>c123 D.f123 C.f40 h164 p hp nl cl vars hb v
 have h86:∀ (k:aA) (p:aC),p.ok->∀ n:Nat,n<=9->k.vars.es.length+n+p.sz<=big->∀ (nl cl:Bool) (there:List Bool),there.length=k.values.es.length->Ret pg 86 [p.av,k.av,.int .i64 n,.sl nl (there.map AV.bool) cl] (.bool (bP k p n there)):=
  fun k p hpo n hn hsz nl cl th hth=>c86 D.f86 (c122 D.f122 D.f163) h123 (c37 D.f37 D.f55) k p hpo n hn hsz nl cl th hth
 exact c31 D.f31 h49 (fun k hin hvals nl cl th hth q second hbo hio hbs his=>c50 D.f50 D.f82 h81 h83 h84 h85 h86 h87 h88 k hin hvals nl cl th hth q second hbo hio hbs his) k hq
theorem JY {q:aD} {N:Nat} (h:q.body.sz+q.index.sz+1<=N):(gN q).length<=N:=by
 have h1:=iA q.body
 have h2:=iA q.index
 have h4:=kS (bD q.index) (bD q.body)
 have h5:=yK q.source (iB (bD q.body) (bD q.index))
 simp only [gN]
 split
 ·split<;>omega
 ·omega
theorem WN (C:Go.Tev.Code pg) (D:Code3 pg) (k:aA) (hk:KOK k):bK pg 10 [k.av] (j0 k):=
 c10 D.f10 k (WL C D k hk.ks) (fun q hq=>c22 D.f22 (c37 D.f37 D.f55) D.f38 q (hk.ks q hq).1 (hk.ks q hq).2.1 (by have:=hk.sz q hq;omega)) (fun q hq=>JY (by have:=hk.sz q hq;omega))
end
end Go.Tev
end
section
namespace Go.Tev
def BC (n:Int):List UInt8:=if n < 0 then [] else 105 :: mU 20 n.toNat
theorem FL:∀ f u,(mU f u).length<=f
 | 0,u=>by simp [mU]
 | f+1,u=>by
  have:=FL f (u / 10)
  simp only [mU]
  split<;>simp<;>omega
section
variable {pg:Pg}
theorem WG (A:Ora pg) (hf:pg.fs 108=some cf108) (n:Int) (hn:n<=9223372036854775807):Ret pg 108 [.int .i64 n] (.str (BC n)):=by
 refine Ret.ofX hf ?_
 unfold cf108
 by_cases h:n < 0
 ·have h1:decide (n < 0)=true:=decide_eq_true h
  simp only [h1,go_sem,seval]
  rw [BC,if_pos h]
 ·have h1:decide (n < 0)=false:=decide_eq_false h
  have a:Ret pg 93 [.int .i64 n] (.str (mU 20 n.toNat)):=by
   refine uP A.f93 A.itoa ?_ rfl
   simp only [qZ]
   rw [if_pos (by omega)]
  have hl:=FL 20 n.toNat
  have e2:(1+(mU 20 n.toNat).length<=9223372036854775807)=True:=eq_true (by omega)
  simp only [h1,go_sem,seval]
  refine aB a (by simp only [go_sem,seval]) rfl ?_
  simp only [e2,go_sem,seval]
  rw [BC,if_neg h]
end
end Go.Tev
end
section
namespace Go.Tev
end Go.Tev
end
section
namespace Go.Tev
def sT (i:Nat) (l:Lin):Bool:=decide (l.c=0)&&match l.ts.es with
 | [t]=>decide (t.v.bs=BC i)&&decide (t.c=1)
 | _=>false
def qO:Nat->List Lin->Bool
 | _,[]=>true
 | i,l :: r=>sT i l&&qO (i+1) r
def tH (p:aC) (rank:Int):Bool := !p.dyn&&(decide ((p.at_.es.length:Int)=rank)&&qO 0 p.at_.es)
def EH (v rank:Int) (p:aC):Bool := !(decide (p.op.bs=[114,101,97,100])&&(decide (p.value=v) && !tH p rank))
mutual
def AC (v rank:Int):aC->Bool
 | .mk op num value name at_ dyn check fn knl kids kcl=>EH v rank (.mk op num value name at_ dyn check fn knl kids kcl)&&BA v rank kids
def BA (v rank:Int):List aC->Bool
 | []=>true
 | p :: r=>AC v rank p&&BA v rank r
end
theorem P0 (v rank:Int) (p:aC):AC v rank p=(EH v rank p&&BA v rank p.kids):=by cases p;rw [AC];rfl
theorem A9 (v rank:Int):∀ l:List aC,BA v rank l=l.all (AC v rank)
 | []=>by simp [BA]
 | p :: r=>by simp [BA,A9 v rank r]
def qA (k:aA) (v:Int):Sp:=((aF k)[v.toNat]?).getD (-2,-1)
def MY (k:aA) (at_ v:Int) (q:aD) (a b:Typ):Bool:=
 (!decide (v=q.value)&&(decide ((qA k q.value).1=at_)&&(!decide ((qA k v).1 = -2)&&decide ((qA k v).2=at_))))&&(gL a b &&
  if q.kind=3 then decide (v=q.source)&&(!(cC q.body).contains v && !(cC q.index).contains v) else AC v b.shape.dims.es.length q.body)
def qR (k:aA) (at_ v:Int):Bool:=
 match k.list.es[at_.toNat]?,k.values.es[v.toNat]? with
 | some q,some a=>match k.values.es[q.value.toNat]? with
  | some b=>decide (0<=at_)&&decide (0<=v)&&MY k at_ v q a b
  | none=>false
 | _,_=>false
def pK (f:Nat->Bool):Nat->Nat->Int
 | _,0 => -1
 | i,n+1=>if f i then i else pK f (i+1) n
def bZ (k:aA):List Int:=(List.range k.list.es.length).map fun (i:Nat)=>pK (fun v=>qR k (i:Int) (v:Int)) 0 k.values.es.length
end Go.Tev
end
section
namespace Go.Tev
section
variable {pg:Pg}
theorem c292 (hf:pg.fs 292=some cf292) (nl cl:Bool) (es:List aC) (hb:es.length<=big) (g:Nat) (cs:List AV) (hcs:treeL cs=true) (p:aC->Bool) (hp:∀ x∈es,Ret pg g (x.av :: cs) (.bool (p x))) :
  bK pg 292 [.sl nl (es.map aC.av) cl,.fn g cs] (fun r=>∃ i:Int,r = .int .i64 i/\decide (0<=i)=es.any p):=
 rN (f:=292) (esz:=9) (ag:=true) hf aC.av aC.fits_av aC.tree_av nl cl es hb g cs hcs p hp
theorem c273 (hf:pg.fs 273=some cf273) (h292:pg.fs 292=some cf292) (nl cl:Bool) (es:List aC) (hb:es.length<=big) (g:Nat) (cs:List AV) (hcs:treeL cs=true) (p:aC->Bool) (hp:∀ x∈es,Ret pg g (x.av :: cs) (.bool (p x))) :
  Ret pg 273 [.sl nl (es.map aC.av) cl,.fn g cs] (.bool (es.any p)):=
 lY (n:=292) hf (by simp only [treeL,lV,oQ,hcs,aC.treeL_av,Bool.and_true]) (c292 h292 nl cl es hb g cs hcs p hp)
theorem c274 (hf:pg.fs 274=some cf274) (p:aC) (v rank:Int) (b:Bool) (h:Ret pg 260 [p.av,.int .i64 v,.int .i64 rank] (.bool b)):Ret pg 274 [p.av,.fp (.int .i64 v),.fp (.int .i64 rank)] (.bool (!b)):=by
 rw [aC.avc] at h
 refine Ret.ofX hf ?_
 unfold cf274
 simp only [go_sem,seval]
 refine aB h (by simp only [go_sem,seval]) rfl ?_
 simp only [go_sem,seval]
theorem c272 (A:Ora pg) (hf:pg.fs 272=some cf272) (h108:pg.fs 108=some cf108) (p:aC) (rank:Int):Ret pg 272 [p.av,.int .i64 rank] (.bool (tH p rank)):=by
 refine Ret.ofX hf ?_
 unfold cf272
 have hb:=p.at_.ok
 cases b1:p.dyn
 case true=>
  simp only [b1,go_sem,seval]
  simp [tH,b1]
 cases b2:decide ((p.at_.es.length:Int)=rank)
 case false=>
  simp only [b1,b2,go_sem,seval]
  simp [tH,b1,b2]
 simp only [b1,b2,go_sem,seval]
 refine aI p.at_.es (fun d r env hp=>env=cf272E0 (.sl p.at_.nl (p.at_.es.map Lin.av) p.at_.cl) (.int .i64 p.at_.es.length) (.int .i64 d.length)/\qO 0 p.at_.es=qO d.length r) ?_ ?_ ?_
 ·exact ⟨rfl,rfl⟩
 ·rintro env hp ⟨rfl,hI⟩
  simp only [cf272L0,cf272E0,go_sem,seval]
  simp [tH,b1,b2,hI,qO]
 ·rintro d x r env hp hes ⟨rfl,hI⟩
  have hb2:(d++x :: r).length<=big:=by rw [<- hes];exact hb
  have hw:=aO hb2
  have hget:p.at_.es[d.length]?=some x:=by rw [hes];simp
  have e1:decide ((d.length:Int) < (p.at_.es.length:Int))=true:=by rw [hes];simp;omega
  have hown:tH p rank=(sT d.length x&&qO (d.length+1) r):=by simp [tH,b1,b2,hI,qO]
  rw [hown]
  have hlen:d.length<=9223372036854775807:=by simp only [big] at hb2;simp at hb2;omega
  have h8:=WG A h108 (d.length:Int) (by omega)
  clear hown hes hb hb2
  cases b3:decide (x.c=0)
  case false=>
   simp only [cf272L0,cf272E0,e1,hget,b3,go_sem,seval]
   refine And.intro (by kernel_rfl) ?_
   simp [sT,b3]
  by_cases hl:x.ts.es.length=1
  case neg=>
   have b4:decide ((x.ts.es.length:Int)=1)=false:=by simp;omega
   have hil:sT d.length x=false:=by
    simp only [sT,b3,Bool.true_and]
    rcases h:x.ts.es with _ | ⟨t,_ | ⟨u,s⟩⟩
    ·rfl
    ·rw [h] at hl;simp at hl
    ·rfl
   simp only [cf272L0,cf272E0,e1,hget,b3,b4,go_sem,seval]
   refine And.intro (by kernel_rfl) ?_
   simp [hil]
  obtain ⟨t,ht⟩:∃ t,x.ts.es=[t]:=by
   rcases h:x.ts.es with _ | ⟨t,_ | ⟨u,s⟩⟩
   ·rw [h] at hl;simp at hl
   ·exact ⟨t,rfl⟩
   ·rw [h] at hl;simp at hl
  have b4:decide ((x.ts.es.length:Int)=1)=true:=by simp;omega
  have hg0:x.ts.es[0]?=some t:=by rw [ht];rfl
  have hil:sT d.length x=(decide (t.v.bs=BC d.length)&&decide (t.c=1)):=by simp only [sT,b3,Bool.true_and,ht]
  rw [hil]
  clear ht hl
  simp only [cf272L0,cf272E0,e1,hget,b3,b4,hg0,go_sem,seval]
  refine aB h8 (by simp only [go_sem,seval]) rfl ?_
  simp only [bO.avc,go_sem,seval]
  refine And.intro (by kernel_rfl) ?_
  cases b5:decide (t.v.bs=BC d.length)<;>cases b6:decide (t.c=1)
  all_goals (simp only [b5,b6,hw,go_sem,seval])
  exact ⟨rfl,by rw [hI,qO,hil,b5,b6];simp⟩
end
end Go.Tev
end
section
namespace Go.Tev
section
variable {pg:Pg}
theorem c260 (A:Ora pg) (hf:pg.fs 260=some cf260) (h272:pg.fs 272=some cf272) (h273:pg.fs 273=some cf273) (h274:pg.fs 274=some cf274) (h292:pg.fs 292=some cf292) (h108:pg.fs 108=some cf108) (v rank:Int) :
  ∀ p:aC,p.ok->Ret pg 260 [p.av,.int .i64 v,.int .i64 rank] (.bool (AC v rank p)):=by
 refine aC.ind' fun p ih hp=>?_
 obtain ⟨hk,hks⟩:=(aC.ok_iff p).1 hp
 have a1:=c272 A h272 h108 p rank
 have a2:=c273 h273 h292 p.knl p.kcl p.kids hk 274 [.fp (.int .i64 v),.fp (.int .i64 rank)] rfl (fun q => !AC v rank q) (fun q hq=>c274 h274 q v rank _ (ih q hq (hks q hq)))
 rw [aC.avc] at a1
 have hall:(p.kids.any fun q => !AC v rank q) = !p.kids.all (AC v rank):=by
  rw [Bool.eq_iff_iff];simp
 rw [hall] at a2
 rw [P0,A9]
 refine Ret.ofX hf ?_
 unfold cf260
 clear ih hks hp hk hall
 cases b1:decide (p.op.bs=[114,101,97,100])
 case false=>
  have ho:EH v rank p=true:=by simp [EH,b1]
  rw [ho]
  simp only [b1,go_sem,seval]
  refine bR (a2) (by simp only [ Nat.zero_add,depth,bX,bB,eD,go_sem,seval];rfl) (by first | rfl | simp only [fJ]) ?_
  simp only [Bool.not_not,go_sem,seval]
 cases b2:decide (p.value=v)
 case false=>
  have ho:EH v rank p=true:=by simp [EH,b2]
  rw [ho]
  simp only [b1,b2,go_sem,seval]
  refine bR (a2) (by simp only [ Nat.zero_add,depth,bX,bB,eD,go_sem,seval];rfl) (by first | rfl | simp only [fJ]) ?_
  simp only [Bool.not_not,go_sem,seval]
 have ho:EH v rank p=tH p rank:=by simp [EH,b1,b2]
 rw [ho]
 simp only [b1,b2,go_sem,seval]
 refine aB a1 (by simp only [go_sem,seval]) rfl ?_
 cases b3:tH p rank
 case false=>
  simp only [go_sem,seval]
 simp only [go_sem,seval]
 refine bR (a2) (by simp only [ Nat.zero_add,depth,bX,bB,eD,go_sem,seval];rfl) (by first | rfl | simp only [fJ]) ?_
 simp only [Bool.not_not,go_sem,seval]
theorem c316 (hf:pg.fs 316=some cf316) (nl cl:Bool) (es:List Int) (hb:es.length<=big) (v:Int) :
  bK pg 316 [.sl nl (es.map aH) cl,.int .i64 v] (fun r=>∃ i:Int,r = .int .i64 i/\decide (0<=i)=es.any (fun y=>decide (v=y))):=
 CX (f:=316) (k:=.bin .eql) hf aH (fun _=>rfl) nl cl es hb (.int .i64 v) (fun y=>decide (v=y)) (by intro kb s h x Q t;simp only [go_sem,seval])
theorem c293 (hf:pg.fs 293=some cf293) (h316:pg.fs 316=some cf316) (nl cl:Bool) (es:List Int) (hb:es.length<=big) (v:Int) :
  Ret pg 293 [.sl nl (es.map aH) cl,.int .i64 v] (.bool (es.contains v)):=by
 have e:∀ l:List Int,l.contains v=l.any fun y=>decide (v=y):=by
  intro l
  induction l with
  | nil=>rfl
  | cons x r ih=>simp only [List.contains_cons,List.any_cons];rw [ih];rfl
 rw [e]
 exact lY (n:=316) hf (by simp only [go_sem,seval]) (c316 h316 nl cl es hb v)
end
end Go.Tev
end
section
namespace Go.Tev
def cP (f:Typ->Int):List Sp->List Typ->List Int
 | s :: r,t :: q=>(if s.1 = -2 then 0 else f t) :: cP f r q
 | _,_=>[]
theorem LP {h:Hp} {k e:Nat} {l:List Int} {t:Bool} (hg:h.get k=some (e,.blk (l.map aH) 1 false t false)) (d:Nat):Tev.snap (d+2) h (.rf k e 0 l.length l.length)=some (.sl false (l.map aH) t,[k]):=by
 obtain ⟨cs',h1,h2,h3,h4⟩:=cH (El.ints l)
 rw [fR] at h1
 cases h1
 have h5:=h4 []
 rw [List.append_nil,List.length_map] at h5
 have h6:cD (Tev.snap (d+1) h) (l.map aH)=some (l.map aH,[]):=dY d h (jL l)
 rw [eD]
 simp [hg,h5,h6,AV.tree]
theorem kP (f:Typ->Int):∀ (d:List Sp) (vs:List Typ),d.length<=vs.length->(cP f d vs).length=d.length
 | [],_,_=>by simp [cP]
 | s :: r,t :: q,h=>by simp [cP,kP f r q (by simpa using h)]
 | s :: r,[],h=>by simp at h
theorem m9 (f:Typ->Int) (s:Sp):∀ (d:List Sp) (vs:List Typ) (t:Typ),vs[d.length]?=some t->cP f (d++[s]) vs=cP f d vs++[if s.1 = -2 then 0 else f t]
 | [],[],_,h=>by simp at h
 | [],t' :: q,t,h=>by simp at h;subst h;simp [cP]
 | s' :: r,t' :: q,t,h=>by
  have:=m9 f s r q t (by simpa using h)
  simp [cP,this]
 | _ :: _,[],_,h=>by simp at h
def qM (f:Typ->Int) (d:List Sp) (vs:List Typ):List Int:=cP f d vs++List.replicate (vs.length - d.length) 0
theorem MD (f:Typ->Int) (d:List Sp) (vs:List Typ) (h:d.length<=vs.length):(qM f d vs).length=vs.length:=by
 simp only [qM,List.length_append,List.length_replicate,kP f d vs h];omega
theorem J6 (f:Typ->Int) (s:Sp) (d:List Sp) (vs:List Typ) (t:Typ) (ht:vs[d.length]?=some t) (hs:s.1 = -2):qM f (d++[s]) vs=qM f d vs:=by
 have hl:=(List.getElem?_eq_some_iff.1 ht).1
 obtain ⟨m,hm⟩:∃ m,vs.length - d.length=m+1:=⟨vs.length - d.length - 1,by omega⟩
 have hm2:vs.length - (d++[s]).length=m:=by simp;omega
 simp only [qM,m9 f s d vs t ht,hm,hm2,if_pos hs,List.append_assoc,List.replicate_succ,List.singleton_append]
theorem MC (f:Typ->Int) (s:Sp) (d:List Sp) (vs:List Typ) (t:Typ) (ht:vs[d.length]?=some t) (hs:¬ s.1 = -2) :
  (qM f (d++[s]) vs).map aH=List.take d.length ((qM f d vs).map aH)++[.int .i64 (f t)]++List.drop (d.length+1) ((qM f d vs).map aH):=by
 have hl:=(List.getElem?_eq_some_iff.1 ht).1
 obtain ⟨m,hm⟩:∃ m,vs.length - d.length=m+1:=⟨vs.length - d.length - 1,by omega⟩
 have hm2:vs.length - (d++[s]).length=m:=by simp;omega
 have hA:=kP f d vs (by omega)
 simp only [qM,m9 f s d vs t ht,hm,hm2,if_neg hs,List.replicate_succ,List.map_append,List.map_cons,List.map_nil]
 rw [List.take_append_of_le_length (by simp [hA]),List.drop_append,List.take_of_length_le (by simp [hA]),List.drop_of_length_le (by simp [hA])]
 simp [hA,aH]
section
variable {pg:Pg}
end
end Go.Tev
end
section
namespace Go.Tev
structure U8 (ins:Nat) (m:Nat) (n:Nat) (s:Sp):Prop where
 inp:n < ins->s.1 = -1 /\ -1<=s.2
 own:ins<=n->s.1 = -2\/(0<=s.1/\s.1 < (m:Int))
 lo : -2<=s.2
 hi:s.2 < (m:Int)
theorem HN {ins V:Nat}:∀ (d:List aD) (n:Nat) (s:Sp),(eI (cB V ins) 0 d)[n]?=some s->U8 ins d.length n s:=by
 intro d
 induction hn:d.length generalizing d with
 | zero=>
  obtain rfl:=List.length_eq_zero_iff.1 hn
  intro n s h
  rw [eI] at h
  rcases GE V ins n s h with ⟨h1,rfl⟩ | ⟨h1,rfl⟩
  ·exact ⟨fun _=>by simp,fun h=>by omega,by simp,by simp⟩
  ·exact ⟨fun h=>by omega,fun _ => .inl rfl,by simp,by simp⟩
 | succ m ih=>
  obtain ⟨d',q,rfl⟩:∃ d' q,d=d'++[q]:=by
   rcases List.eq_nil_or_concat d with h | ⟨d',q,h⟩
   ·subst h;simp at hn
   ·exact ⟨d',q,by simpa using h⟩
  have hl:d'.length=m:=by simpa using hn
  intro n s h
  rw [sB,Nat.zero_add] at h
  have hlt:n < (eI (cB V ins) 0 d').length:=by
   have:=(List.getElem?_eq_some_iff.1 h).1
   rwa [r7] at this
  obtain ⟨s',h1,h2,h3,h4⟩:=GC (eI (cB V ins) 0 d') d'.length q n _ (List.getElem?_eq_getElem hlt)
  rw [h] at h1
  cases h1
  have I:=ih d' hl n _ (List.getElem?_eq_getElem hlt)
  generalize (eI (cB V ins) 0 d')[n]=s0 at *
  rw [hl] at h2 h3
  have hs2:s.2=(m:Int)\/s.2=s0.2:=by
   by_cases hu:uses q n
   ·exact .inl (h3 hu)
   ·exact .inr (h4 hu)
  obtain ⟨i1,i2,i3,i4⟩:=I
  refine ⟨fun h=>?_,fun h=>?_,?_,?_⟩
  ·obtain ⟨a,b⟩:=i1 h
   rw [if_neg (by rintro ⟨_,c⟩;omega)] at h2
   exact ⟨by omega,by rcases hs2 with e | e<;>omega⟩
  ·have:=i2 h
   split at h2<;>omega
  ·rcases hs2 with e | e<;>omega
  ·rcases hs2 with e | e<;>omega
structure WV (k:aA) (n:Nat) (s:Sp):Prop where
 fst:s.1 = -2\/(-1<=s.1/\s.1 < (k.list.es.length:Int)+1)
 snd : -2<=s.2/\s.2<=(k.list.es.length:Int)
 inp:(s.1 ≠ -2/\s.1 <= -1 /\ -1<=s.2)↔(n:Int) < k.inputs
 res:s.2=(k.list.es.length:Int)↔n∈k.results.es.map Int.toNat
theorem VD {k:aA} (h0:0<=k.inputs) {n:Nat} {s:Sp} (h:(aF k)[n]?=some s):WV k n s:=by
 rw [GB,Option.map_eq_some_iff] at h
 obtain ⟨s0,h1,h2⟩:=h
 have I:=HN k.list.es n s0 h1
 obtain ⟨i1,i2,i3,i4⟩:=I
 have hfst:s.1=s0.1:=by rw [<- h2];split<;>rfl
 have hsnd:(n∈k.results.es.map Int.toNat/\s.2=(k.list.es.length:Int))\/(n ∉ k.results.es.map Int.toNat/\s.2=s0.2):=by
  rw [<- h2]
  split
  ·rename_i hh;exact .inl ⟨hh,rfl⟩
  ·rename_i hh;exact .inr ⟨hh,rfl⟩
 refine ⟨?_,?_,?_,?_⟩
 ·rcases Nat.lt_or_ge n k.inputs.toNat with c | c
  ·have:=i1 c;omega
  ·have:=i2 c;omega
 ·rcases hsnd with ⟨_,e⟩ | ⟨_,e⟩<;>omega
 ·constructor
  ·rintro ⟨a,b,c⟩
   rcases Nat.lt_or_ge n k.inputs.toNat with d | d
   ·omega
   ·have:=i2 d;omega
  ·intro hn
   have:=i1 (by omega)
   rcases hsnd with ⟨_,e⟩ | ⟨_,e⟩<;>omega
 ·rcases hsnd with ⟨a,e⟩ | ⟨a,e⟩
  ·exact ⟨fun _=>a,fun _=>e⟩
  ·exact ⟨fun h=>by omega,fun h=>absurd h a⟩
def jZ (j:Nat):List (Sp × Int)->Int->Int
 | [],a=>a
 | p :: r,a=>jZ j r (if fN ((j:Int) - 1) p.1 then wr .i64 (a+p.2) else a)
end Go.Tev
end
section
namespace Go.Tev
theorem QB {k:aA} {at_ v:Nat} {q:aD} {a b:Typ} (hq:k.list.es[at_]?=some q) (ha:k.values.es[v]?=some a) (hb:k.values.es[q.value.toNat]?=some b):qR k at_ v=MY k at_ v q a b:=by
 have h1:decide (0<=(at_:Int))=true:=by simp
 have h2:decide (0<=(v:Int))=true:=by simp
 simp only [qR,Int.toNat_natCast,hq,ha,hb,h1,h2,Bool.true_and]
theorem AP {k:aA} {v:Int} {s:Sp} (h:(aF k)[v.toNat]?=some s):qA k v=s:=by simp [qA,h]
structure WY (k:aA) (at_ v:Nat) (q:aD) (a b:Typ) (s1 s2:Sp):Prop where
 hq:k.list.es[at_]?=some q
 ha:k.values.es[v]?=some a
 hb:k.values.es[q.value.toNat]?=some b
 h1:(aF k)[q.value.toNat]?=some s1
 h2:(aF k)[v]?=some s2
 q0:0<=q.value
 f2 : -2<=s2.1
 mem:q∈k.list.es
theorem VN {k:aA} (ok:fP k) {at_ v:Nat} (ha:at_ < k.list.es.length) (hv:v < k.values.es.length):∃ q a b s1 s2,WY k at_ v q a b s1 s2:=by
 obtain ⟨i0,i1⟩:=ok.inp
 have hsl:=gP (k:=k) (by omega)
 have hg:k.list.es[at_]?=some k.list.es[at_]:=List.getElem?_eq_getElem ha
 have hsplit:k.list.es=k.list.es.take at_++k.list.es[at_] :: k.list.es.drop (at_+1):=by
  rw [<- List.drop_eq_getElem_cons ha,List.take_append_drop]
 obtain ⟨w1,w2,_⟩:=dJ (ok.ker _ _ _ hsplit)
 have hs2:(aF k)[v]?=some (aF k)[v]:=List.getElem?_eq_getElem (by omega)
 have hE:=(VD i0 hs2).fst
 exact ⟨_,_,_,_,_,hg,List.getElem?_eq_getElem hv,List.getElem?_eq_getElem (by omega),List.getElem?_eq_getElem (by omega),hs2,by omega,by omega,List.getElem_mem ha⟩
section
variable {pg:Pg}
set_option maxHeartbeats 4000000 in
theorem c275 (hf:pg.fs 275=some cf275) (h65:∀ x y:Typ,Ret pg 65 [x.av,y.av] (.bool (gL x y))) (h48:∀ p:aC,p.ok->p.sz<=big->bK pg 48 [p.av] (kI 1 false ((cC p).map aH)))
  (h293:∀ (nl cl:Bool) (es:List Int),es.length<=big->∀ v:Int,Ret pg 293 [.sl nl (es.map aH) cl,.int .i64 v] (.bool (es.contains v)))
  (h260:∀ (v rank:Int) (p:aC),p.ok->Ret pg 260 [p.av,.int .i64 v,.int .i64 rank] (.bool (AC v rank p))) (k:aA) (ok:fP k)
  (hk:∀ q∈k.list.es,q.body.ok/\q.index.ok/\q.body.sz+q.index.sz+1<=big) (nl cl:Bool) (at_ v:Nat) (hat:at_ < k.list.es.length) (hv:v < k.values.es.length) :
  Ret pg 275 [k.av,.sl nl ((aF k).map bS) cl,.int .i64 at_,.int .i64 v] (.bool (qR k at_ v)):=by
 obtain ⟨q,a,b,s1,s2,M⟩:=VN ok hat hv
 obtain ⟨m1,m2,m3,m4,m5,m6,m7,m8⟩:=M
 obtain ⟨k1,k2,k3⟩:=hk q m8
 rw [QB m1 m2 m3]
 simp only [MY,AP m4,AP (v:=(v:Int)) (by simpa using m5)]
 have a65:=h65 a b
 have a48:=h48 q.body k1 (by omega)
 have b48:=h48 q.index k2 (by omega)
 have l1:=kR q.body
 have l2:=kR q.index
 have a260:=h260 v b.shape.dims.es.length q.body k1
 have m6':(0<=q.value)=True:=eq_true m6
 rw [aC.avc] at a48 b48 a260
 clear h65 h48 h260 hk ok m7 m8 k1 k2
 refine Ret.ofX hf ?_
 unfold cf275
 cases b1:decide ((v:Int)=q.value)
 case true=>
  simp only [m1,m2,m3,m4,m5,m6',b1,bS,go_sem,seval]
  first | kernel_rfl | (refine And.intro (by kernel_rfl) ?_;simp only [go_sem,seval])
 cases b2:decide (s1.1=(at_:Int))
 case false=>
  simp only [m1,m2,m3,m4,m5,m6',b1,b2,bS,go_sem,seval]
  first | kernel_rfl | (refine And.intro (by kernel_rfl) ?_;simp only [go_sem,seval])
 cases b3:decide (s2.1 = -2)
 case true=>
  simp only [m1,m2,m3,m4,m5,m6',b1,b2,b3,bS,go_sem,seval]
  first | kernel_rfl | (refine And.intro (by kernel_rfl) ?_;simp only [go_sem,seval])
 cases b4:decide (s2.2=(at_:Int))
 case false=>
  simp only [m1,m2,m3,m4,m5,m6',b1,b2,b3,b4,bS,go_sem,seval]
  first | kernel_rfl | (refine And.intro (by kernel_rfl) ?_;simp only [go_sem,seval])
 simp only [m1,m2,m3,m4,m5,m6',b1,b2,b3,b4,bS,go_sem,seval]
 refine aB a65 (by simp only [go_sem,seval]) rfl ?_
 cases b5:gL a b
 case false=>
  simp only [go_sem,seval]
  first | kernel_rfl | (refine And.intro (by kernel_rfl) ?_;simp only [go_sem,seval])
 simp only [go_sem,seval]
 refine And.intro (by kernel_rfl) ?_
 by_cases h6:q.kind=3
 ·have b6:decide (q.kind=3)=true:=decide_eq_true h6
  rw [if_pos h6]
  cases b7:decide ((v:Int)=q.source)
  case false=>
   simp only [b6,b7,go_sem,seval]
  simp only [b6,b7,go_sem,seval]
  refine kD a48 (by simp only [go_sem,seval]) ?_
  intro nl1 cl1 _
  simp only [go_sem,seval]
  refine aB (h293 nl1 cl1 _ (by omega) v) (by simp only [go_sem,seval]) rfl ?_
  cases b8:(cC q.body).contains (v:Int)
  case true=>
   simp only [go_sem,seval]
  simp only [go_sem,seval]
  refine kD b48 (by simp only [go_sem,seval]) ?_
  intro nl2 cl2 _
  simp only [go_sem,seval]
  refine aB (h293 nl2 cl2 _ (by omega) v) (by simp only [go_sem,seval]) rfl ?_
  simp only [go_sem,seval]
 ·have b6:decide (q.kind=3)=false:=decide_eq_false h6
  rw [if_neg h6]
  simp only [b6,m3,m6',go_sem,seval]
  refine aB a260 (by simp only [go_sem,seval]) rfl ?_
  simp only [go_sem,seval]
  first | kernel_rfl | (refine And.intro (by kernel_rfl) ?_;simp only [go_sem,seval])
end
end Go.Tev
end
section
namespace Go.Tev
section
variable {pg:Pg}
theorem vQ (l:List Sp):treeL (l.map bS)=true:=bH (f:=bS) (fun s=>by simp [bS,go_sem]) _
attribute [go_sem] vQ
end
end Go.Tev
end
section
namespace Go.Tev
def KX (k:aA) (r:AV):Prop:=
 if (cR k).2=0 then ∃ nl cl,(nl=true->bZ k=[])/\r = .tup [.sl nl ((bZ k).map aH) cl,.int .i64 0] else r = .tup [.sl true [] true,.int .i64 22]
def eC (k:aA) (i:Nat):Int:=pK (fun v=>qR k (i:Int) (v:Int)) 0 k.values.es.length
def lB (k:aA) (n:Nat):List Int:=(List.range n).map (eC k)
theorem pM (k:aA):bZ k=lB k k.list.es.length:=rfl
theorem C7 (k:aA) (n:Nat):lB k (n+1)=lB k n++[eC k n]:=by simp [lB,List.range_succ]
theorem rB (k:aA) (n:Nat):(lB k n).length=n:=by simp [lB]
section
variable {pg:Pg}
set_option maxHeartbeats 8000000 in
theorem c262 (hf:pg.fs 262=some cf262) (k:aA) (h9:bK pg 9 [k.av] (kM k))
  (h275:fP k->∀ (nl cl:Bool) (at_ v:Nat),at_ < k.list.es.length->v < k.values.es.length->Ret pg 275 [k.av,.sl nl ((aF k).map bS) cl,.int .i64 at_,.int .i64 v] (.bool (qR k at_ v))) :
  bK pg 262 [k.av] (KX k):=by
 obtain ⟨r9,hr9,hs9⟩:=h9
 rw [aA.avc] at hr9
 refine bK.ofX hf ?_
 unfold cf262
 rcases kV (k:=k) with hc | hc
 case inr=>
  rw [kM,if_neg (by omega)] at hs9
  subst hs9
  simp only [go_sem,seval]
  refine aB hr9 (by simp only [go_sem,seval]) rfl ?_
  simp only [go_sem,seval]
  rw [KX,if_neg (by omega)]
 have ok:=dZ hc
 rw [kM,if_pos hc] at hs9
 subst hs9
 have hlb:=k.list.ok
 have hvb:=k.values.ok
 simp only [go_sem,seval]
 refine aB hr9 (by simp only [go_sem,seval]) (by first | rfl | simp [AV.tree,vQ]) ?_
 simp only [go_sem,seval]
 refine aI k.list.es (fun d r env hp=>∃ v,env=cf262E1 (.pt 1 0 0) (.sl false ((aF k).map bS) false) v (.int .i64 k.list.es.length) (.int .i64 d.length) /\
  hp.get 1=some (0,.blk k.cells 6 true true false)/\Own hp 13 1 false v ((lB k d.length).map aH)) ?_ ?_ ?_
 ·refine ⟨_,rfl,?_,Own.nil _ _ _ _ _ _ rfl⟩
  simp only [go_sem,seval]
  rfl
 ·rintro env hp ⟨v,rfl,g1,ho⟩
  simp only [cf262L1,cf262E1,go_sem,seval]
  rw [<- pM] at ho
  have hfin:∀ r,(∃ nl cl,(nl=true->bZ k=[])/\r = .tup [.sl nl ((bZ k).map aH) cl,.int .i64 0])->KX k r:=by
   intro r hr
   rw [KX,if_pos hc]
   exact hr
  obtain ⟨nl,cl,keys,hsn,hnl⟩:=ho.snap (El.ints _) 61
  rcases ho with ⟨he,nl',cl',rfl,_⟩ | ⟨e,cs,rfl,hg,hu⟩
  ·rw [List.map_eq_nil_iff] at he
   rw [he] at hfin
   simp only [go_sem,seval]
   exact hfin _ ⟨nl',cl',fun _=>rfl,rfl⟩
  ·simp only [List.length_map] at hsn
   simp only [Tev.conv,depth,eD,bX,bB,↓hsn,go_sem,List.length_map]
   exact hfin _ ⟨_,_,fun h=>by simpa using hnl h,rfl⟩
 ·rintro d q r env hp hes ⟨v,rfl,g1,ho⟩
  have hlt:d.length < k.list.es.length:=by rw [hes];simp
  have hb2:(d++q :: r).length<=big:=by rw [<- hes];exact hlb
  have hw:=aO hb2
  have e1:decide ((d.length:Int) < (k.list.es.length:Int))=true:=by simp;omega
  have g1':=g1
  simp only [aA.cells,Sl.av] at g1
  have hdl:d.length+1<=1073741824:=by simp only [big] at hb2;simp at hb2;omega
  have hsno:=C7 k d.length
  have h275':=h275 ok false false d.length
  rw [aA.avc] at h275'
  clear hes h275 hlb
  simp only [cf262L1,cf262E1,e1,g1,go_sem,seval]
  refine aI (List.range k.values.es.length) (fun d2 r2 env hp=>env=cf262E0 (.pt 1 0 0) (.sl false ((aF k).map bS) false) v (.int .i64 d.length) (.int .i64 (-1)) (.int .i64 k.list.es.length) (.int .i64 d.length) (.int .i64 k.values.es.length) (.int .i64 d2.length) /\
   hp.get 1=some (0,.blk k.cells 6 true true false)/\Own hp 13 1 false v ((lB k d.length).map aH)/\eC k d.length=pK (fun v=>qR k (d.length:Int) (v:Int)) d2.length r2.length) ?_ ?_ ?_
  ·exact ⟨rfl,g1',ho,by rw [List.length_range];rfl⟩
  ·clear ho g1 g1' hp
   rintro env hp ⟨rfl,g1,ho,hI⟩
   rw [List.length_range]
   simp only [cf262L0,cf262E0,go_sem,seval]
   refine fH (kb:=0) (s:=13) ho (El.ints _) (xs:=[.int .i64 (-1)]) (by intro y hy;simp at hy;subst hy;exact ⟨rfl,rfl,rfl⟩) (by simp only [List.length_map,rB,List.length_singleton];omega) (by decide) ?_
   intro v' rd pa ho2 hk2 _
   simp only [hw,go_sem,seval]
   refine ⟨v',rfl,by rw [hk2 1 (by omega)];exact g1,?_⟩
   rw [List.length_append,List.length_singleton,hsno,hI]
   simpa [pK,rL] using ho2
  ·clear ho g1 g1' hp
   rintro d2 x r2 env hp hes2 ⟨rfl,g1,ho,hI⟩
   obtain ⟨rfl,hlt2⟩:=iG hes2
   have hb3:(d2++d2.length :: r2).length<=big:=by rw [<- hes2];simp;omega
   have hw2:=aO hb3
   have f1:decide ((d2.length:Int) < (k.values.es.length:Int))=true:=by simp;omega
   have g1':=g1
   simp only [aA.cells,Sl.av] at g1
   have a275:=h275' d2.length hlt hlt2
   have hcons:eC k d.length=if qR k (d.length:Int) (d2.length:Int) then (d2.length:Int) else pK (fun v=>qR k (d.length:Int) (v:Int)) (d2.length+1) r2.length:=by
    rw [hI];rfl
   clear h275' hes2 hI
   simp only [cf262L0,cf262E0,f1,g1,go_sem,seval]
   refine aB a275 (by simp only [go_sem,seval]) rfl ?_
   cases b1:qR k (d.length:Int) (d2.length:Int)
   ·rw [b1] at hcons
    simp only [hw2,go_sem,seval]
    exact ⟨rfl,g1',ho,by simpa using hcons⟩
   ·rw [b1,if_pos rfl] at hcons
    simp only [go_sem,seval]
    refine fH (kb:=0) (s:=13) (ho.mono ?_) (El.ints _) (xs:=[.int .i64 d2.length]) (by intro y hy;simp at hy;subst hy;exact ⟨rfl,rfl,rfl⟩) (by simp only [List.length_map,rB,List.length_singleton];omega) (by decide) ?_
    ·simp only [go_sem,seval]
    intro v' rd pa ho2 hk2 _
    simp only [hw,go_sem,seval]
    refine ⟨v',rfl,?_,?_⟩
    ·rw [hk2 1 (by omega)]
     first | exact g1' | (simp only [go_sem,seval];exact g1')
    ·rw [List.length_append,List.length_singleton,hsno,hcons]
     simpa [rL] using ho2
end
end Go.Tev
end
section
namespace Go.Tev
def mC (ds:List Val) (v:List UInt8):Option Val:=ds.find? (fun x=>decide (x.v.bs=v))
def jW (ds:List Val):Int->List bO->Int × Int
 | n,[]=>(n,0)
 | n,c :: r=>match mC ds c.v.bs with
  | none=>(0,7)
  | some v=>if decide (v.n < -1000000000)||decide (1000000000 < v.n) then (0,2) else jW ds (wr .i64 (n+wr .i64 (c.c*v.n))) r
def bJ (ds:List Val) (l:Lin):Int × Int:=if d6 l then jW ds l.c l.ts.es else (0,1)
theorem zL {ds:List Val} {n:Int} {c:bO} {r:List bO} (h:mC ds c.v.bs=none):jW ds n (c :: r)=(0,7):=by
 simp only [jW,h]
theorem zJ {ds:List Val} {n:Int} {c:bO} {r:List bO} {v:Val} (h:mC ds c.v.bs=some v) :
  jW ds n (c :: r)=(if decide (v.n < -1000000000)||decide (1000000000 < v.n) then (0,2) else jW ds (wr .i64 (n+wr .i64 (c.c*v.n))) r):=by
 simp only [jW,h]
section
variable {pg:Pg}
theorem QI {f:Nat} {esz:Nat} {ag:Bool} (hf:pg.fs f=some (QJ esz ag)) {α : Type} (enc : α -> AV) (hfit:∀ x,(enc x).fits esz ag=true) (htree:∀ x,(enc x).tree=true)
  (nl cl:Bool) (es:List α) (hb:es.length<=big) (g:Nat) (cs:List AV) (hcs:treeL cs=true) (p : α -> Bool) (hp:∀ x∈es,Ret pg g (enc x :: cs) (.bool (p x))) :
  bK pg f [.sl nl (es.map enc) cl,.fn g cs] (fun r=>∃ i:Int,r = .int .i64 i/\((i < 0/\es.find? p=none)\/(0<=i/\∃ x,es[i.toNat]?=some x/\es.find? p=some x))):=by
 refine bK.ofX hf ?_
 unfold QJ
 simp only [go_sem,seval]
 refine dK es (fun d e=>eF e (some 8) (.int .i64 d.length)) (fun d r hp=>es.find? p=r.find? p) rfl ?_ ?_ ?_
 ·rfl
 ·intro hp' hI
  simp only [E2,E1,go_sem,seval]
  simp [hI]
 ·intro d x r hp' hes hI
  have hx0:(d++x :: r)[d.length]?=some x:=by simp
  subst hes
  simp only [E2,E1,hfit,go_sem,seval]
  refine aB (hp x (by simp)) (by simp only [treeL,htree,hcs,List.cons_append,List.nil_append,Bool.and_true]) rfl ?_
  simp only [go_sem,seval]
  cases hx:p x
  ·simp only [aO hb,go_sem,seval]
   rw [hI];simp [hx]
  ·simp only [go_sem,seval]
   exact .inr (by rw [hI];simp [hx])
theorem aBC (hf:pg.fs 52=some cf52) (h53:pg.fs 53=some cf53) (nl cl:Bool) (ds:List Val) (hb:ds.length<=big) (c:bO) :
  bK pg 52 [.sl nl (ds.map Val.av) cl,.fn 53 [.fp c.av]] (fun r=>∃ i:Int,r = .int .i64 i/\((i < 0/\mC ds c.v.bs=none)\/(0<=i/\∃ x,ds[i.toNat]?=some x/\mC ds c.v.bs=some x))):=
 QI (f:=52) (esz:=2) (ag:=true) hf Val.av (fun _=>by simp only [go_sem,seval]) (fun _=>by simp only [go_sem,seval]) nl cl ds hb 53 [.fp c.av] (by simp only [go_sem,seval]) (fun v=>decide (v.v.bs=c.v.bs)) (fun v _=>c53 h53 c v)
theorem aBI (hf:pg.fs 32=some cf32) (h51:∀ l:Lin,Ret pg 51 [l.av] (.bool (d6 l))) (h52:pg.fs 52=some cf52) (h53:pg.fs 53=some cf53) (l:Lin) (nl cl:Bool) (ds:List Val) (hb:ds.length<=big) :
  Ret pg 32 [l.av,.sl nl (ds.map Val.av) cl] (.tup [.int .i64 (bJ ds l).1,.int .i64 (bJ ds l).2]):=by
 refine Ret.ofX hf ?_
 unfold cf32
 have hlb:=l.ts.ok
 simp only [go_sem,seval]
 refine aB (h51 l) (by simp only [go_sem,seval]) rfl ?_
 simp only [go_sem,seval]
 cases hx:d6 l
 ·simp only [go_sem,seval]
  simp [bJ,hx]
 have hev:bJ ds l=jW ds l.c l.ts.es:=by simp [bJ,hx]
 rw [hev]
 simp only [go_sem,seval]
 refine aI l.ts.es (fun d r env hp=>∃ n:Int,env=cf32E0 (.sl nl (ds.map Val.av) cl) (.int .i64 n) (.sl l.ts.nl (l.ts.es.map bO.av) l.ts.cl) (.int .i64 l.ts.es.length) (.int .i64 d.length)/\jW ds l.c l.ts.es=jW ds n r) ?_ ?_ ?_
 ·exact ⟨_,rfl,rfl⟩
 ·rintro env hp ⟨n,rfl,hI⟩
  rw [hI]
  simp only [cf32L0,cf32E0,jW,go_sem,seval]
 ·rintro d x r env hp hes ⟨n,rfl,hI⟩
  obtain ⟨hget,e1,e2,ew⟩:=cG hes hlb
  rw [hI]
  obtain ⟨r52,hr52,i,rfl,hi⟩:=aBC h52 h53 nl cl ds hb x
  simp only [cf32L0,cf32E0,hget,e1,e2,go_sem,seval]
  refine bR (hr52) (by simp only [ bO.avc,depth,bX,bB,eD,go_sem,seval];rfl) (by first | rfl | simp only [fJ]) ?_
  simp only [go_sem,seval]
  rcases hi with ⟨h1,h2⟩ | ⟨h1,v,hv,h2⟩
  ·have b1:decide (i < 0)=true:=by simpa using h1
   rw [zL h2]
   simp only [b1,go_sem,seval]
  ·have b1:decide (i < 0)=false:=by simp;omega
   have h0t:(0<=i)=True:=eq_true h1
   rw [zJ h2]
   simp only [b1,hv,h0t,go_sem,seval]
   cases b2:decide (v.n < -1000000000)
   case true=>
    simp only [b2,go_sem,seval]
   cases b3:decide (1000000000 < v.n)
   case true=>
    simp only [b2,b3,go_sem,seval]
   simp only [b2,b3,hv,h0t,ew,go_sem,seval]
   exact ⟨by kernel_rfl,_,rfl,rfl⟩
def mF (ds:List Val):Int->Bool->List Lin->Int × Bool
 | n,b,[]=>(n,b)
 | n,b,l :: r=>mF ds (HZ (bJ ds l).1 n) (b&&(decide (0<=(bJ ds l).1)&&decide ((bJ ds l).1<=4096))) r
def eT (ds:List Val) (t:Typ):Int × Bool:=((mF ds 1 true t.shape.dims.es).1,(mF ds 1 true t.shape.dims.es).2&&decide ((mF ds 1 true t.shape.dims.es).1<=4096))
theorem aBH (hf:pg.fs 33=some cf33) (h32:∀ (l:Lin) (nl cl:Bool) (ds:List Val),ds.length<=big->Ret pg 32 [l.av,.sl nl (ds.map Val.av) cl] (.tup [.int .i64 (bJ ds l).1,.int .i64 (bJ ds l).2])) (t:Typ) (nl cl:Bool) (ds:List Val) (hb:ds.length<=big) :
  Ret pg 33 [t.av,.sl nl (ds.map Val.av) cl] (.tup [.int .i64 (eT ds t).1,.bool (eT ds t).2]):=by
 refine Ret.ofX hf ?_
 unfold cf33
 have hlb:=t.shape.dims.ok
 simp only [go_sem,seval]
 refine aI t.shape.dims.es (fun d r env hp=>∃ (n:Int) (b:Bool),env=cf33E0 (.sl nl (ds.map Val.av) cl) (.int .i64 n) (.bool b) (.sl t.shape.dims.nl (t.shape.dims.es.map Lin.av) t.shape.dims.cl) (.int .i64 t.shape.dims.es.length) (.int .i64 d.length)/\mF ds 1 true t.shape.dims.es=mF ds n b r) ?_ ?_ ?_
 ·exact ⟨_,_,rfl,rfl⟩
 ·rintro env hp ⟨n,b,rfl,hI⟩
  have h1:eT ds t=(n,b&&decide (n<=4096)):=by simp only [eT,hI,mF]
  rw [h1]
  cases b
  ·simp only [cf33L0,cf33E0,go_sem,seval]
  ·simp only [cf33L0,cf33E0,go_sem,seval]
 ·rintro d x r env hp hes ⟨n,b,rfl,hI⟩
  obtain ⟨hget,e1,e2,ew⟩:=cG hes hlb
  have hr32:=h32 x nl cl ds hb
  simp only [mF] at hI
  generalize (bJ ds x).1=a32 at hr32 hI
  generalize (bJ ds x).2=b32 at hr32
  rw [Lin.avc] at hr32
  simp only [cf33L0,cf33E0,hget,e1,e2,go_sem,seval]
  refine aB hr32 (by simp only [go_sem,seval]) rfl ?_
  cases b
  ·simp only [ew,mx2,mn2,go_sem,seval]
   exact ⟨HZ a32 n,false,rfl,by simpa using hI⟩
  ·cases b1:decide (0<=a32)
   ·simp only [b1,ew,mx2,mn2,go_sem,seval]
    exact ⟨HZ a32 n,false,rfl,by simpa [b1] using hI⟩
   ·simp only [b1,ew,mx2,mn2,go_sem,seval]
    exact ⟨HZ a32 n,decide (a32<=4096),rfl,by simpa [b1] using hI⟩
theorem aBG (hf:pg.fs 34=some cf34) (h54:∀ l:Lin,Ret pg 54 [l.av] (.bool (d6 l))) (l:Lin) (nl cl:Bool) (ds:List Val) (hb:ds.length<=big) :
  Ret pg 34 [l.av,.sl nl (ds.map Val.av) cl] (.tup [.int .i64 (bJ ds l).1,.int .i64 (bJ ds l).2]):=by
 refine Ret.ofX hf ?_
 unfold cf34
 have hlb:=l.ts.ok
 have a1:=h54 l
 rw [Lin.avc] at a1
 simp only [go_sem,seval]
 refine aB a1 (by simp only [go_sem,seval]) rfl ?_
 cases hx:d6 l
 ·simp only [go_sem,seval]
  simp [bJ,hx]
 have hev:bJ ds l=jW ds l.c l.ts.es:=by simp [bJ,hx]
 rw [hev]
 simp only [go_sem,seval]
 refine aI l.ts.es (fun d r env hp=>∃ n:Int,env=cf34E1 (.sl nl (ds.map Val.av) cl) (.pt 1 0 0) (.int .i64 n) (.int .i64 d.length)/\hp.get 1=some (0,.blk [.int .i64 l.c,.sl l.ts.nl (l.ts.es.map bO.av) l.ts.cl] 2 true true false)/\jW ds l.c l.ts.es=jW ds n r) ?_ ?_ ?_
 ·exact ⟨_,rfl,rfl,rfl⟩
 ·rintro env hp ⟨n,rfl,g1,hI⟩
  rw [hI]
  simp only [cf34L1,cf34E1,g1,bA,jW,go_sem,seval]
 ·rintro d c r env hp hes ⟨n,rfl,g1,hI⟩
  obtain ⟨hget,e1,e2,ew⟩:=cG hes hlb
  rw [hI]
  clear hI
  simp only [cf34L1,cf34E1,g1,e1,e2,go_sem,seval]
  refine aI ds (fun d2 r2 env hp=>env=cf34E0 (.sl nl (ds.map Val.av) cl) (.pt 1 0 0) (.int .i64 n) (.int .i64 d.length) (.int .i64 d2.length)/\hp.get 1=some (0,.blk [.int .i64 l.c,.sl l.ts.nl (l.ts.es.map bO.av) l.ts.cl] 2 true true false)/\mC ds c.v.bs=mC r2 c.v.bs) ?_ ?_ ?_
  ·exact ⟨rfl,g1,rfl⟩
  ·rintro env hp2 ⟨rfl,q1,hI⟩
   have hn:mC ds c.v.bs=none:=by rw [hI];rfl
   rw [zL hn]
   simp only [cf34L0,cf34E0,bA,go_sem,seval]
   show _=true
   kernel_rfl
  ·rintro d2 v r2 env hp2 hes2 ⟨rfl,q1,hI⟩
   obtain ⟨hget2,f1,f2,fw⟩:=cG hes2 hb
   cases b0:decide (v.v.bs=c.v.bs)
   case false=>
    simp only [cf34L0,cf34E0,q1,hget,hget2,e1,e2,f1,f2,b0,fw,go_sem,seval]
    refine ⟨by kernel_rfl,rfl,?_⟩
    rw [hI];simp [mC,b0]
   case true=>
    have hs:mC ds c.v.bs=some v:=by rw [hI];simp [mC,b0]
    have hne:decide ((d2.length:Int)=(ds.length:Int))=false:=by
     have:=of_decide_eq_true f1
     simp;omega
    rw [zJ hs]
    simp only [cf34L0,cf34E0,q1,hget,hget2,e1,e2,f1,f2,b0,go_sem,seval]
    refine And.intro (by kernel_rfl) ?_
    simp only [hne,hget2,f2,go_sem,seval]
    cases b2:decide (v.n < -1000000000)
    case true=>
     simp only [b2,go_sem,seval]
    cases b3:decide (1000000000 < v.n)
    case true=>
     simp only [b2,b3,go_sem,seval]
    simp only [b2,b3,q1,hget,e2,ew,go_sem,seval]
    exact ⟨_,rfl,rfl⟩
end
end Go.Tev
end
