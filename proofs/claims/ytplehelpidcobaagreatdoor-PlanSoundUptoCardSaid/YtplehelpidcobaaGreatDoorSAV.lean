import Derived.Test.YtplehelpidcobaaGreatDoorSAU
import Derived.Test.YtplehelpidcobaaGreatDoorSAT
import Derived.Test.YtplehelpidcobaaGreatDoorSAS
import Derived.Shelf.SlSortCmp.WholeK
import Derived.KernelRfl
import Derived.Shelf.SlSortCmp.NoneTotal
import Derived.Test.YtplehelpidcobaaGreatDoorProg
import Derived.Shelf.Strconv.Itoa3
import Derived.Shelf.LaysM
import Derived.Shelf.LaysC
import Derived.Shelf.Strconv.AtoiAll
import Derived.Shelf.Sort.Plain
import Derived.Shelf.Slices.CompactI
import Derived.Shelf.Slices.In.SortNone
import Derived.Ground.Names2Prog
import Derived.Test.YtplehelpidcobaaGreatDoorSAO
import Derived.Lib.AppendIntMem
set_option linter.all false
section
namespace Go.Tev
theorem cF{α : Type}{es d r:List α}{x : α}(hes:es=d++x::r)(hb:es.length<=big) :
  es[d.length]?=some x/\decide ((d.length:Int)<(es.length:Int))=true/\((d.length:Int)<(es.length:Int))=True/\wr .i64 ((d.length:Int)+1)=((d++[x]).length:Int):=by
 have h:d.length<es.length:=by rw[hes];simp
 refine⟨by rw[hes];simp,by simp;omega,eq_true (by omega),aM (r:=r) (by rw[<-hes];exact hb)⟩
theorem aW(n:Nat):decide ((n:Int)<(n:Int))=false:=by simp
theorem yZ{α β : Type}{q : α -> β -> Bool}{es d r:List α}{x : α}{es':List β}(hes:es=d++x::r)(hl:es.length=es'.length) :
  ∃y,es'[d.length]?=some y/\decide ((d.length:Int)<(es'.length:Int))=true/\((d.length:Int)<(es'.length:Int))=True/\eqL q (x::r) (es'.drop d.length)=(q x y&&eqL q r (es'.drop (d++[x]).length)):=by
 have h:d.length<es'.length:=by rw[<-hl,hes];simp
 refine⟨es'[d.length],List.getElem?_eq_getElem h,by simp;omega,eq_true (by omega),?_⟩
 rw[List.drop_eq_getElem_cons h,eqL]
 simp
theorem lE{α β : Type}{q : α -> β -> Bool}{es:List α}{es':List β}(hl:es.length=es'.length):eqL q [] (es'.drop es.length)=true:=by
 rw[hl,List.drop_length];simp[eqL]
theorem tH{α β : Type}{q : α -> β -> Bool}{a:List α}{b:List β}(h:decide ((a.length:Int)=(b.length:Int))=false):eqL q a b=false:=by
 cases he:eqL q a b
 ·rfl
 ·have:=uP he
  simp[this]at h
theorem o7:∀s:List UInt8,Op.bytesLess s s=false
 |[]=>rfl
 |c::r=>by
  simp only[Op.bytesLess,o7 r,Bool.and_false,Bool.or_false,decide_eq_false_iff_not]
  exact UInt8.lt_irrefl c
section
variable{pg:Pg}
theorem c194(hf:pg.fs 194=some cf194)(nl cl:Bool)(vars:List Str)(hb:vars.length<=big)(s:List UInt8):Ret pg 194 [.sl nl (vars.map Str.av) cl,.str s] (.bool (jV vars s)):=by
 refine Ret.ofX hf ?_
 unfold cf194
 simp only[go_sem,seval]
 refine aI vars (fun d r env hp=>env=cf194E0 (.sl nl (vars.map Str.av) cl) (.str s) (.int .i64 d.length)/\jV vars s=jV r s) ?_ ?_ ?_
 ·exact⟨rfl,rfl⟩
 ·rintro env hp ⟨rfl,hI⟩
  simp only[cf194L0,cf194E0,aW,go_sem,seval]
  rw[hI];rfl
 ·rintro d x r env hp hes ⟨rfl,hI⟩
  obtain⟨hget,e1,e2,ew⟩:=cF hes hb
  have hsym:decide (x.bs=s)=decide (s=x.bs):=by rw[decide_eq_decide];exact eq_comm
  cases hx:decide (s=x.bs)
  ·simp only[cf194L0,cf194E0,e1,e2,hget,hsym,hx,ew,go_sem,seval]
   refine⟨rfl,?_⟩
   rw[hI];simp[jV,hx]
  ·simp only[cf194L0,cf194E0,e1,e2,hget,hsym,hx,go_sem,seval]
   rw[hI];simp[jV,hx]
theorem c193(hf:pg.fs 193=some cf193)(h54:∀l:Lin,Ret pg 54 [l.av] (.bool (d9 l)))(h194:pg.fs 194=some cf194)(nl cl:Bool)(ls:List Lin)(hb:ls.length<=big)(nl' cl':Bool)(vars:List Str)(hb':vars.length<=big) :
  Ret pg 193 [.sl nl (ls.map Lin.av) cl,.sl nl' (vars.map Str.av) cl'] (.bool (bX ls vars)):=by
 refine Ret.ofX hf ?_
 unfold cf193
 simp only[go_sem,seval]
 refine aI ls (fun d r env hp=>env=cf193E1 (.sl nl (ls.map Lin.av) cl) (.sl nl' (vars.map Str.av) cl') (.int .i64 d.length)/\bX ls vars=bX r vars) ?_ ?_ ?_
 ·exact⟨rfl,rfl⟩
 ·rintro env hp ⟨rfl,hI⟩
  simp only[cf193L1,cf193E1,aW,go_sem,seval]
  rw[hI];rfl
 ·rintro d l r env hp hes ⟨rfl,hI⟩
  rw[wP]at hI
  obtain⟨hget,e1,e2,ew⟩:=cF hes hb
  rw[hI]
  clear hI
  simp only[cf193L1,cf193E1,hget,e1,e2,go_sem,seval]
  refine aB (h54 l) (by simp only[go_sem,seval]) rfl ?_
  simp only[go_sem,seval]
  cases hl:d9 l
  case false=>
   simp only[go_sem,seval]
  simp only[go_sem,seval]
  have hlb:=l.ts.ok
  refine aI l.ts.es (fun d2 r2 env hp=>env=cf193E0 (.sl nl (ls.map Lin.av) cl) (.sl nl' (vars.map Str.av) cl') (.int .i64 d.length) (.int .i64 d2.length)/\l.ts.es.all (fun x=>jV vars x.v.bs)=r2.all (fun x=>jV vars x.v.bs)) ?_ ?_ ?_
  ·exact⟨rfl,rfl⟩
  ·rintro env hp ⟨rfl,hI⟩
   simp only[cf193L0,cf193E0,hget,e2,aW,ew,go_sem,seval]
   refine⟨rfl,?_⟩
   rw[hI];simp
  ·rintro d2 x r2 env hp he2 ⟨rfl,hI⟩
   obtain⟨hget2,g1,g2,gw⟩:=cF he2 hlb
   rw[hI]
   clear hI
   simp only[cf193L0,cf193E0,hget,e2,g1,g2,hget2,go_sem,seval]
   refine aB (c194 h194 nl' cl' vars hb' x.v.bs) (by simp only[go_sem,seval]) rfl ?_
   simp only[go_sem,seval]
   cases hv:jV vars x.v.bs
   ·simp only[hv,go_sem,seval]
   ·simp only[hv,gw,go_sem,seval]
    rfl
theorem RS(hf:pg.fs 124=some cf124)(n:Int):Ret pg 124 [.str [105,110,116],.int .i64 n] (.bool (lL n)):=by
 refine Ret.ofX hf ?_
 unfold cf124
 repeat' (first|simp only[*,go_sem,seval]|refine aN (fun _=>?_) (fun _=>?_)|refine aO (fun _=>?_) (fun _=>?_)|refine And.intro (by kernel_rfl) ?_)
 all_goals (simp_all [lL])
 all_goals omega
theorem WY(hf:pg.fs 124=some cf124)(n:Int):Ret pg 124 [.str [98,111,111,108],.int .i64 n] (.bool (pV n)):=by
 refine Ret.ofX hf ?_
 unfold cf124
 repeat' (first|simp only[*,go_sem,seval]|refine aN (fun _=>?_) (fun _=>?_)|refine aO (fun _=>?_) (fun _=>?_)|refine And.intro (by kernel_rfl) ?_)
 all_goals (simp_all [pV])
def WI(a b:Lin)(r:AV):Prop:=∃c:Int,r = .int .i64 c/\decide (c=0)=bH a b
theorem mF{a b:Lin}(c:Int)(h:decide (c=0)=bH a b):WI a b (.int .i64 c):=⟨c,rfl,h⟩
theorem IR{α β : Type}{a:List α}{b:List β}{d r:List (α×β)}{p : α×β}(h:a.zip b=d++p::r) :
  a[d.length]?=some p.1/\b[d.length]?=some p.2/\d.length<a.length/\d.length<b.length:=by
 have h1:(a.zip b)[d.length]?=some p:=by rw[h];simp
 rw[List.getElem?_zip_eq_some]at h1
 obtain⟨h2,h3⟩:=h1
 exact⟨h2,h3,(List.getElem?_eq_some_iff.1 h2).1,(List.getElem?_eq_some_iff.1 h3).1⟩
theorem c191(hf:pg.fs 191=some cf191)(a b:Lin):bJ pg 191 [a.av,b.av] (WI a b):=by
 refine bJ.ofX hf ?_
 unfold cf191
 simp only[go_sem,seval]
 have hab:=a.ts.ok
 have hbb:=b.ts.ok
 refine aI (a.ts.es.zip b.ts.es) (fun d r env hp=>hp.get 1=some (0,.blk [.int .i64 a.c,.sl a.ts.nl (a.ts.es.map bS.av) a.ts.cl] 2 true true false)/\hp.get 5=some (0,.blk [.int .i64 b.c,.sl b.ts.nl (b.ts.es.map bS.av) b.ts.cl] 2 true true false) /\
  env=cf191E0 (.pt 1 0 0) (.pt 5 0 0) (.int .i64 d.length)/\eqL fL a.ts.es b.ts.es=eqL fL (a.ts.es.drop d.length) (b.ts.es.drop d.length)) ?_ ?_ ?_
 ·exact⟨rfl,rfl,rfl,rfl⟩
 ·rintro env hp ⟨g1,g5,rfl,hI⟩
  rw[List.length_zip]at hI ⊢
  have hl:bH a b=(decide (a.c=b.c)&&eqL fL (a.ts.es.drop (min a.ts.es.length b.ts.es.length)) (b.ts.es.drop (min a.ts.es.length b.ts.es.length))):=by rw[bH,hI]
  clear hI
  generalize hm:min a.ts.es.length b.ts.es.length=m at hl ⊢
  rcases Nat.lt_trichotomy a.ts.es.length b.ts.es.length with h|h|h
  ·have hm':m=a.ts.es.length:=by omega
   subst hm'
   have f1:decide ((a.ts.es.length:Int)<(b.ts.es.length:Int))=true:=by simp;omega
   have hz:bH a b=false:=by
    rw[hl,List.drop_length]
    have:(b.ts.es.drop a.ts.es.length)≠[]:=by simp[List.drop_eq_nil_iff];omega
    cases hd:b.ts.es.drop a.ts.es.length with
    |nil=>exact absurd hd this
    |cons y s=>simp[eqL]
   simp only[cf191L0,cf191E0,g1,g5,aW,f1,go_sem,seval]
   refine mF _ ?_
   rw[hz];rfl
  ·have hm':m=a.ts.es.length:=by omega
   subst hm'
   have f0:decide ((b.ts.es.length:Int)<(a.ts.es.length:Int))=false:=by simp;omega
   have f1:decide ((a.ts.es.length:Int)<(b.ts.es.length:Int))=false:=by simp;omega
   have f2:decide ((a.ts.es.length:Int)=(b.ts.es.length:Int))=true:=by simp;omega
   have hz:bH a b=decide (a.c=b.c):=by
    rw[hl,List.drop_length,h,List.drop_length]
    simp[eqL]
   cases c1:decide (a.c<b.c)
   case true=>
    simp only[cf191L0,cf191E0,g1,g5,aW,f0,f1,f2,c1,go_sem,seval]
    refine mF _ ?_
    have:¬a.c=b.c:=by have:=of_decide_eq_true c1;omega
    rw[hz,decide_eq_false this];rfl
   case false=>
   cases c2:decide (b.c<a.c)
   case true=>
    simp only[cf191L0,cf191E0,g1,g5,aW,f0,f1,f2,c1,c2,go_sem,seval]
    refine mF _ ?_
    have:¬a.c=b.c:=by have:=of_decide_eq_true c2;omega
    rw[hz,decide_eq_false this];rfl
   case false=>
    simp only[cf191L0,cf191E0,g1,g5,aW,f0,f1,f2,c1,c2,go_sem,seval]
    refine mF _ ?_
    have:a.c=b.c:=by have:=of_decide_eq_false c2;have:=of_decide_eq_false c1;omega
    rw[hz,decide_eq_true this];rfl
  ·have hm':m=b.ts.es.length:=by omega
   subst hm'
   have f0:decide ((b.ts.es.length:Int)<(a.ts.es.length:Int))=true:=by simp;omega
   have f1:decide ((a.ts.es.length:Int)<(b.ts.es.length:Int))=false:=by simp;omega
   have f2:decide ((a.ts.es.length:Int)=(b.ts.es.length:Int))=false:=by simp;omega
   have hz:bH a b=false:=by
    rw[hl,List.drop_length]
    have:(a.ts.es.drop b.ts.es.length)≠[]:=by simp[List.drop_eq_nil_iff];omega
    cases hd:a.ts.es.drop b.ts.es.length with
    |nil=>exact absurd hd this
    |cons y s=>simp[eqL]
   simp only[cf191L0,cf191E0,g1,g5,aW,f0,f1,f2,go_sem,seval]
   refine mF _ ?_
   rw[hz];rfl
 ·rintro d ⟨x,y⟩ r env hp hes ⟨g1,g5,rfl,hI⟩
  obtain⟨ga,gb,la,lb⟩:=IR hes
  have e1:decide ((d.length:Int)<(a.ts.es.length:Int))=true:=by simp;omega
  have e2:((d.length:Int)<(a.ts.es.length:Int))=True:=eq_true (by omega)
  have e3:decide ((d.length:Int)<(b.ts.es.length:Int))=true:=by simp;omega
  have e4:((d.length:Int)<(b.ts.es.length:Int))=True:=eq_true (by omega)
  have ew:wr .i64 ((d.length:Int)+1)=((d++[(x,y)]).length:Int):=by
   simp only[big]at hab
   rw[aV (by omega) (by omega)];simp
  have hst:eqL fL a.ts.es b.ts.es=(fL x y&&eqL fL (a.ts.es.drop (d++[(x,y)]).length) (b.ts.es.drop (d++[(x,y)]).length)):=by
   rw[hI,List.drop_eq_getElem_cons la,List.drop_eq_getElem_cons lb,eqL]
   rw[List.getElem?_eq_getElem la]at ga
   rw[List.getElem?_eq_getElem lb]at gb
   cases ga;cases gb
   simp
  have hlin:fL x y=false->bH a b=false:=by
   intro h
   rw[bH,hst,h];simp
  clear hI
  cases c1:Op.bytesLess x.v.bs y.v.bs
  case true=>
   simp only[cf191L0,cf191E0,g1,g5,e1,e2,e3,e4,ga,gb,c1,go_sem,seval]
   refine And.intro (by kernel_rfl) ?_
   refine mF _ ?_
   have:¬x.v.bs=y.v.bs:=by intro h;rw[h,o7]at c1;cases c1
   rw[hlin (by simp[fL,this])];rfl
  case false=>
  cases c2:decide (x.v.bs=y.v.bs)
  case false=>
   simp only[cf191L0,cf191E0,g1,g5,e1,e2,e3,e4,ga,gb,c1,c2,go_sem,seval]
   refine And.intro (by kernel_rfl) ?_
   refine mF _ ?_
   rw[hlin (by simp[fL,c2])];rfl
  case true=>
  cases c3:decide (x.c<y.c)
  case true=>
   simp only[cf191L0,cf191E0,g1,g5,e1,e2,e3,e4,ga,gb,c1,c2,c3,go_sem,seval]
   refine And.intro (by kernel_rfl) ?_
   refine mF _ ?_
   have:¬x.c=y.c:=by have:=of_decide_eq_true c3;omega
   rw[hlin (by simp[fL,this])];rfl
  case false=>
  cases c4:decide (x.c=y.c)
  case false=>
   simp only[cf191L0,cf191E0,g1,g5,e1,e2,e3,e4,ga,gb,c1,c2,c3,c4,go_sem,seval]
   refine And.intro (by kernel_rfl) ?_
   refine mF _ ?_
   rw[hlin (by simp[fL,c4])];rfl
  case true=>
   simp only[cf191L0,cf191E0,g1,g5,e1,e2,e3,e4,ga,gb,c1,c2,c3,c4,go_sem,seval]
   rw[ew]
   refine⟨by kernel_rfl,rfl,?_⟩
   rw[hst];simp[fL,c2,c4]
theorem c162(hf:pg.fs 162=some cf162)(h191:pg.fs 191=some cf191)(a b:Lin):Ret pg 162 [a.av,b.av] (.bool (bH a b)):=by
 obtain⟨r,hr,c,rfl,hc⟩:=c191 h191 a b
 rw[Lin.avc,Lin.avc]at hr
 refine Ret.ofX hf ?_
 unfold cf162
 simp only[go_sem,seval]
 refine aB (hr) (by simp only[go_sem,seval]) rfl ?_
 simp only[go_sem,seval]
 rw[<-hc]
theorem c121(hf:pg.fs 121=some cf121)(h162:pg.fs 162=some cf162)(h191:pg.fs 191=some cf191)(a b:bI):Ret pg 121 [a.av,b.av] (.bool (fD a b)):=by
 refine Ret.ofX hf ?_
 unfold cf121
 have hab:=a.dims.ok
 cases b1:decide (a.row.bs=b.row.bs)
 case false=>
  simp only[b1,go_sem,seval]
  simp[fD,b1]
 case true=>
 cases b2:decide ((a.dims.es.length:Int)=(b.dims.es.length:Int))
 case false=>
  simp only[b1,b2,go_sem,seval]
  simp[fD,b1,tH b2]
 case true=>
 have hl:a.dims.es.length=b.dims.es.length:=by have:=of_decide_eq_true b2;omega
 have hs:fD a b=eqL bH a.dims.es b.dims.es:=by simp[fD,b1]
 rw[hs]
 simp only[b1,b2,go_sem,seval]
 refine aI a.dims.es (fun d r env hp=>hp.get 1=some (0,.blk [.str a.row.bs,.sl a.dims.nl (a.dims.es.map Lin.av) a.dims.cl] 2 true true false)/\hp.get 5=some (0,.blk [.str b.row.bs,.sl b.dims.nl (b.dims.es.map Lin.av) b.dims.cl] 2 true true false) /\
  env=cf121E0 (.pt 1 0 0) (.pt 5 0 0) (.int .i64 d.length)/\eqL bH a.dims.es b.dims.es=eqL bH r (b.dims.es.drop d.length)) ?_ ?_ ?_
 ·exact⟨rfl,rfl,rfl,rfl⟩
 ·rintro env hp ⟨g1,g5,rfl,hI⟩
  simp only[cf121L0,cf121E0,g1,aW,go_sem,seval]
  rw[hI,lE hl]
 ·rintro d x r env hp hes ⟨g1,g5,rfl,hI⟩
  obtain⟨hget,e1,e2,ew⟩:=cF hes hab
  obtain⟨y,gy,f1,f2,hq⟩:=yZ (q:=bH) hes hl
  rw[hq]at hI
  rw[hI]
  clear hI
  have a1:=c162 h162 h191 x y
  rw[Lin.avc,Lin.avc]at a1
  cases hxy:bH x y
  ·simp only[cf121L0,cf121E0,g1,g5,hget,e1,e2,gy,f1,f2,go_sem,seval]
   refine aB a1 (by simp only[go_sem,seval]) rfl ?_
   simp only[hxy,go_sem,seval]
   kernel_rfl
  ·simp only[cf121L0,cf121E0,g1,g5,hget,e1,e2,gy,f1,f2,go_sem,seval]
   refine aB a1 (by simp only[go_sem,seval]) rfl ?_
   simp only[hxy,ew,go_sem,seval]
   exact⟨by kernel_rfl,g1,g5,rfl⟩
end
end Go.Tev
end
section
namespace Go.Tev
section
variable{pg:Pg}
end
end Go.Tev
end
section
namespace Go.Tev
theorem IX(l:List Sp)(i:Nat)(x:Sp)(h:l[i]?=some x):(0+i*2+2<=(aK l).length)=True/\List.take 2 (List.drop (0+i*2) (aK l))=[.int .i64 x.1,.int .i64 x.2]:=by
 obtain⟨hi,hx⟩:=List.getElem?_eq_some_iff.1 h
 have hl:=cO l
 obtain⟨h1,h2⟩:=rN l i x h
 refine⟨eq_true (by omega),?_⟩
 rw[Nat.zero_add,List.drop_eq_getElem_cons (by omega),List.drop_eq_getElem_cons (by omega)]
 rw[List.getElem?_eq_getElem (by omega)]at h1 h2
 simp only[Option.some.injEq]at h1 h2
 simp[h1,h2]
structure VE(pg:Pg):Prop where
 sort:∀(kb:Nat)(h:Hp)(k e:Nat)(l:List Sp),h.get k=some (e,.blk (aK l) 2 true false false)->l.length<=big->(∀p∈l,jY p=false) ->
  ∃l',l'.Perm l/\(l'.Pairwise fun a b=>a.1<=b.1)/\pZ pg 636 [.rf k e 0 l.length l.length,.fn 637 []] kb h (.tup []) (h.put k e (.blk (aK l') 2 true false false))
 sortN:∀(kb:Nat)(h:Hp)(nl cl:Bool),pZ pg 636 [.sl nl [] cl,.fn 637 []] kb h (.tup []) h
section
variable{pg:Pg}
theorem c623(O:VE pg)(hf:pg.fs 623=some cf623)(h629:pg.fs 629=some cf629)(h633:pg.fs 633=some cf633)(h644:pg.fs 644=some cf644)(h634:pg.fs 634=some cf634)(h635:pg.fs 635=some cf635)
  (nl cl:Bool) (es:List Sp) (hb:es.length<=big) (hnl:nl=true->es=[]) (s:Int):Ret pg 623 [.sl nl (es.map aR) cl,.int .i64 s] (.int .i64 (fitS es s)):=by
 have a1:=c633 h633 h644 h634 nl cl es hb
 have a2:=c635 h635 nl cl (es.map aR) (jP es) (by simpa using hb) (by simpa using hnl)
 have tl:=fH es
 refine Ret.ofX hf ?_
 unfold cf623
 cases b1:decide (s<0)
 case true=>
  simp only[b1,go_sem,seval]
  rw[fitS,if_pos (.inl (of_decide_eq_true b1))]
 cases b2:decide (1000000000<s)
 case true=>
  simp only[b1,b2,go_sem,seval]
  rw[fitS,if_pos (.inr (.inl (of_decide_eq_true b2)))]
 have b1':=of_decide_eq_false b1
 have b2':=of_decide_eq_false b2
 simp only[b1,b2,go_sem,seval]
 refine aB a1 (by simp only[tl,go_sem,seval]) rfl ?_
 cases hno:es.any jY
 case true=>
  simp only[go_sem,seval]
  rw[fitS,if_pos (.inr (.inr hno))]
 have hok:¬(s<0\/1000000000<s\/es.any jY=true):=by rw[hno];simp;omega
 have hbad:∀p∈es,jY p=false:=fun p hp=>by
  cases h:jY p
  ·rfl
  ·rw[List.any_eq_true.2 ⟨p,hp,h⟩]at hno;cases hno
 cases b0:decide (s=0)
 case true=>
  simp only[b0,go_sem,seval]
  rw[fitS,if_neg hok,of_decide_eq_true b0,fitScan_zero]
 simp only[b0,go_sem,seval]
 refine xO a2 (by simp only[tl,go_sem,seval]) (jP es) (fun he nl' cl' _=>?_) (fun cs hcs _=>?_)
 ·have he0:es=[]:=by simpa using he
  simp only[go_sem,seval]
  refine jO (.inl rfl) rfl (O.sortN _ _ nl' cl') ?_
  simp only[go_sem,seval]
  refine aI ([]:List Sp) (fun d r env hp=>env=cf623E0 (.int .i64 s) (.int .i64 0) (.sl nl' [] cl') (.int .i64 0) (.int .i64 0)) ?_ ?_ ?_
  ·rfl
  ·rintro env hp rfl
   simp only[cf623L0,cf623E0,go_sem,seval]
   rw[fitS,if_neg hok,he0]
   simp[IY,fitScan]
  ·intro d x r env hp hes
   simp at hes
 ·rw[kW]at hcs
  cases hcs
  rw[List.length_map]
  simp only[go_sem,seval]
  obtain⟨l',hperm,hsort,hr⟩:=O.sort (jB 0 9 [.rf 5 0 0 es.length es.length,.fn 637 []]) (Hp.put [] 5 0 (.blk (aK es) 2 true false false)) 5 0 es (by rw[aH,if_pos rfl]) hb hbad
  refine jO (.inl rfl) rfl hr ?_
  have hlen:l'.length=es.length:=hperm.length_eq
  have hb':l'.length<=big:=by omega
  have hspec:fitScan s l' 0=fitS es s:=fitS_of hok (fun p=>hperm.mem_iff) hsort
  have hbad':∀p∈l',jY p=false:=fun p hp=>hbad p (hperm.mem_iff.1 hp)
  rw[<-hspec,<-hlen]
  clear hr a1 a2 tl hok hspec
  simp only[go_sem,seval]
  refine aI l' (fun d r env hp=>∃at_:Int,env=cf623E0 (.int .i64 s) (.int .i64 at_) (.rf 5 0 0 l'.length l'.length) (.int .i64 l'.length) (.int .i64 d.length)/\hp.get 5=some (0,.blk (aK l') 2 true false false)/\fitScan s l' 0=fitScan s r at_/\0<=at_/\at_<=2000000000) ?_ ?_ ?_
  ·exact⟨0,rfl,by simp[aH],rfl,by omega,by omega⟩
  ·rintro env hp ⟨at_,rfl,g5,hI,_,_⟩
   simp only[cf623L0,cf623E0,aW,go_sem,seval]
   rw[hI]
   rfl
  ·rintro d x r env hp hes ⟨at_,rfl,g5,hI,h1,h2⟩
   obtain⟨hget,e1,e2,ew⟩:=cF hes hb'
   obtain⟨x1,x2,x3,x4⟩:=tK (hbad' x (by rw[hes];simp))
   have w1:wr .i64 (x.1+x.2)=x.1+x.2:=aV (by omega) (by omega)
   have w2:wr .i64 (at_+s)=at_+s:=aV (by omega) (by omega)
   have a1:=c629 h629 x (at_,s) w2 w1
   rw[fitScan]at hI
   simp only[aR]at a1
   obtain⟨f1,f2⟩:=IX l' d.length x hget
   simp only[cf623L0,cf623E0,e1,e2,g5,f1,f2,go_sem,seval]
   refine aB a1 (by simp only[go_sem,seval]) rfl ?_
   cases hm:gP x (at_,s)
   ·rw[hm,if_neg (by simp)]at hI
    simp only[ew,go_sem,seval]
    exact⟨at_,rfl,g5,hI,h1,h2⟩
   ·rw[hm,if_pos rfl]at hI
    simp only[w1,ew,go_sem,seval]
    exact⟨x.1+x.2,rfl,g5,hI,by omega,by omega⟩
end
end Go.Tev
end
section
namespace Go.Tev
open Go.Sort
abbrev GP:={p:Sp // jY p=false}
instance:Inhabited GP:=⟨⟨(0,0),rfl⟩⟩
def cfP(x y:GP):Int:=x.1.1-y.1.1
def AN(x:GP):List Value:=[.int .i64 x.1.1,.int .i64 x.1.2]
theorem ltP(x y:GP):Go.Proofs.ltOf cfP x y=decide (x.1.1<y.1.1):=by
 have h:(x.1.1-y.1.1<0)↔x.1.1<y.1.1:=by omega
 simp only[Go.Proofs.ltOf,cfP]
 exact decide_eq_decide.2 h
theorem VL:SWO (Go.Proofs.ltOf cfP) where
 irrefl x:=by rw[ltP];simp
 trans x y z h1 h2:=by rw[ltP]at *;simp at *;omega
 ntrans x y z h1 h2:=by rw[ltP]at *;simp at *;omega
def xB(p:Sp):GP:=if h:jY p=false then ⟨p,h⟩ else default
theorem DT{p:Sp}(h:jY p=false):(xB p).1=p:=by simp[xB,h]
def gpA(l:List Sp):Array GP:=(l.map xB).toArray
theorem NX(l:List Sp):(gpA l).size=l.length:=by simp[gpA]
def CZ(l:List Sp):Array GP:=pdq (Go.Proofs.ltOf cfP) (gpA l) 0 (gpA l).size (Lib.bitLen (gpA l).size) true true
def KJ(l:List Sp):List Sp:=(CZ l).toList.map (·.1)
theorem C6:∀{l:List Sp},(∀p∈l,jY p=false)->(l.map xB).map (·.1)=l
 |[],_=>rfl
 |p::l,h=>by
  simp only[List.map_cons,DT (h p (by simp)),List.cons.injEq,true_and]
  exact C6 fun q hq=>h q (by simp[hq])
theorem xK{l:List Sp}(h:∀p∈l,jY p=false):(KJ l).Perm l/\(KJ l).Pairwise fun a b=>a.1<=b.1:=by
 obtain⟨⟨h1,_,h2⟩,h3⟩:=pdq_sorts (Go.Proofs.ltOf cfP) VL (gpA l) 0 (gpA l).size (Lib.bitLen (gpA l).size) true true (Nat.zero_le _) (Nat.le_refl _) (Or.inl rfl)
 rw[<-CZ.eq_1]at h1 h2 h3
 constructor
 ·have e1:(CZ l).extract 0 (gpA l).size=CZ l:=by rw[<-h1];simp
  have e2:(gpA l).extract 0 (gpA l).size=gpA l:=by simp
  rw[e1,e2]at h2
  have:=h2.map (·.1)
  have e3:(gpA l).toList.map (·.1)=l:=C6 h
  rw[e3]at this
  exact this
 ·unfold KJ
  rw[List.pairwise_map,List.pairwise_iff_getElem]
  intro i j hi hj hij
  have:=h3 i j (Nat.zero_le _) hij (by rw[<-h1];simpa using hj)
  rw[ltP,getElem!_pos (CZ l) i (by simpa using hi),getElem!_pos (CZ l) j (by simpa using hj)]at this
  have:=of_decide_eq_false this
  simp only[Array.getElem_toList]
  omega
def HI(x:Sp):List Sp->List Sp
 |[]=>[x]
 |y::r=>bif decide (x.1<=y.1) then x::y::r else y::HI x r
def IZ:List Sp->List Sp
 |[]=>[]
 |x::r=>HI x (IZ r)
theorem vO(x:Sp):∀l,(HI x l).Perm (x::l)
 |[]=>List.Perm.refl _
 |y::r=>by
  rw[HI]
  cases decide (x.1<=y.1)
  ·exact((vO x r).cons y).trans (List.Perm.swap x y r)
  ·exact List.Perm.refl _
theorem sO:∀l,(IZ l).Perm l
 |[]=>List.Perm.refl _
 |x::r=>(vO x _).trans ((sO r).cons x)
theorem wR(x:Sp):∀l:List Sp,l.Pairwise (fun a b=>a.1<=b.1)->(HI x l).Pairwise fun a b=>a.1<=b.1
 |[],_=>by simp[HI]
 |y::r,h=>by
  rw[List.pairwise_cons]at h
  rw[HI]
  cases hd:decide (x.1<=y.1)
  ·have hxy:=of_decide_eq_false hd
   simp only[cond_false,List.pairwise_cons]
   refine⟨?_,wR x r h.2⟩
   intro a ha
   rcases List.mem_cons.1 ((vO x r).subset ha) with rfl|ha
   ·omega
   ·exact h.1 a ha
  ·have hxy:=of_decide_eq_true hd
   simp only[cond_true,List.pairwise_cons]
   refine⟨?_,h.1,h.2⟩
   intro a ha
   rcases List.mem_cons.1 ha with rfl|ha
   ·exact hxy
   ·exact Int.le_trans hxy (h.1 a ha)
theorem tQ:∀l:List Sp,(IZ l).Pairwise fun a b=>a.1<=b.1
 |[]=>List.Pairwise.nil
 |x::r=>wR x _ (tQ r)
def FM:List Sp->Bool
 |[]=>true
 |x::r=>r.all (fun y => !(decide (x.1=y.1)))&&FM r
theorem wZ:∀{l:List Sp},FM l=true->(l.map (·.1)).Nodup
 |[],_=>by simp
 |x::r,h=>by
  simp only[FM,Bool.and_eq_true,List.all_eq_true,Bool.not_eq_true',decide_eq_false_iff_not]at h
  rw[List.map_cons,List.nodup_cons]
  refine⟨?_,wZ h.2⟩
  intro hm
  obtain⟨y,hy,he⟩:=List.mem_map.1 hm
  exact h.1 y hy he.symm
theorem qN:∀{a b:List Sp},a.Perm b->(a.map (·.1)).Nodup->a.Pairwise (fun x y=>x.1<=y.1)->b.Pairwise (fun x y=>x.1<=y.1)->a=b
 |[],b,h,_,_,_=>(List.Perm.nil_eq h)
 |x::r,[],h,_,_,_=>absurd h.symm.nil_eq (by simp)
 |x::r,y::s,h,hn,ha,hb=>by
  rw[List.pairwise_cons]at ha hb
  rw[List.map_cons,List.nodup_cons]at hn
  have hy':y∈x::r:=h.symm.subset (by simp)
  have h1:x.1<=y.1:=by
   rcases List.mem_cons.1 hy' with rfl|hy
   ·exact Int.le_refl _
   ·exact ha.1 y hy
  have h2:y.1<=x.1:=by
   have:x∈y::s:=h.subset (by simp)
   rcases List.mem_cons.1 this with rfl|hx
   ·exact Int.le_refl _
   ·exact hb.1 x hx
  have he:x.1=y.1:=by omega
  obtain rfl:y=x:=by
   rcases List.mem_cons.1 hy' with h|hy
   ·exact h
   ·exact absurd (List.mem_map.2 ⟨y,hy,he.symm⟩) hn.1
  rw[qN (List.Perm.cons_inv h) hn.2 ha.2 hb.2]
def qA(l:List Sp):List Sp:=bif FM l then IZ l else KJ l
theorem oL{l:List Sp}(h:∀p∈l,jY p=false):qA l=KJ l:=by
 unfold qA
 cases hd:FM l
 ·rfl
 ·obtain⟨h1,h2⟩:=xK h
  refine qN ((sO l).trans h1.symm) ?_ (tQ l) h2
  exact((sO l).map (·.1)).nodup_iff.2 (wZ hd)
def lZ:List Sp->List Int
 |[]=>[]
 |p::r=>p.1::p.2::lZ r
theorem rT:∀l,(lZ l).length=l.length*2
 |[]=>rfl
 |p::r=>by simp only[lZ,List.length_cons,rT r];omega
theorem pD:∀l,aK l=(lZ l).map aG
 |[]=>rfl
 |p::r=>by rw[aK,lZ,pD r];rfl
def yA:List AV->Option (List Sp)
 |[]=>some []
 |.int .i64 a :: .int .i64 b::r=>(yA r).map ((a,b) :: ·)
 |_=>none
theorem D0:∀l,yA (aK l)=some l
 |[]=>rfl
 |p::r=>by simp[aK,yA,D0 r]
theorem D1:∀{cs:List AV}{l:List Sp},yA cs=some l->cs=aK l
 |[],l,h=>by simp[yA]at h;subst h;rfl
 |.int .i64 a :: .int .i64 b::r,l,h=>by
  simp only[yA,Option.map_eq_some_iff]at h
  obtain⟨t,h1,rfl⟩:=h
  rw[D1 h1]
  rfl
def rY(args:List AV)(_:Nat)(h:Hp):Option (AV×Hp):=
 match args with
 |[.sl _ [] _,.fn 637 []]=>some (.tup [],h)
 |[.rf k e off len _,.fn 637 []]=>
  match h.get k with
  |some (e',.blk cs 2 true ti false)=>
   if e'=e/\off+len*2<=cs.length/\len<=16777216 then
    match yA ((cs.drop off).take (len*2)) with
    |some l=>if (l.all fun p => !jY p)=true then some (.tup [],h.put k e (.blk (dJ cs off (aK (qA l))) 2 true ti false)) else none
    |none=>none
   else none
  |_=>none
 |_=>none
section
variable{pg:Pg}
theorem QF(h1:pg.fs 636=none)(h2:pg.ex 636=some rY):VE pg where
 sort:=by
  intro kb h k e l hg hb hok
  obtain⟨q1,q2⟩:=xK hok
  refine⟨qA l,by rw[oL hok];exact q1,by rw[oL hok];exact q2,?_⟩
  have hlen:(qA l).length=l.length:=by rw[oL hok];exact q1.length_eq
  refine rP h1 h2 ?_
  simp only[big]at hb
  simp only[rY,hg,Nat.zero_add,List.drop_zero]
  rw[if_pos ⟨trivial,by rw[cO];exact Nat.le_refl _,hb⟩,List.take_of_length_le (by rw[cO];exact Nat.le_refl _),D0]
  dsimp only
  rw[if_pos (by rw[List.all_eq_true];intro p hp;rw[hok p hp];rfl)]
  simp only[dJ,List.take_zero,List.nil_append,Nat.zero_add]
  rw[List.drop_eq_nil_of_le (by rw[cO,cO,hlen];exact Nat.le_refl _),List.append_nil]
 sortN:=by
  intro kb h nl cl
  exact rP h1 h2 rfl
end
theorem JL(l:List Sp):Go.Sort.flatK AN 2 (l.map xB).toArray=((lZ (l.map fun p=>(xB p).1)).map (Value.int .i64)).toArray:=by
 have key:∀(l:List Sp)(t:Nat),t<l.length*2->(AN (l.map xB).toArray[t / 2]!)[t % 2]! = ((lZ (l.map fun p=>(xB p).1)).map (Value.int .i64))[t]!:=by
  intro l
  induction l with
  |nil=>intro t h;simp at h
  |cons p l ih=>
   intro t h
   match t with
   |0=>rfl
   |1=>rfl
   |t+2=>
    have:=ih t (by simp at h;omega)
    rw[show (t+2) / 2=t / 2+1 from by omega,show (t+2) % 2=t % 2 from by omega]
    simpa[lZ] using this
 have hs:(Go.Sort.flatK AN 2 (l.map xB).toArray).size=l.length*2:=by simp
 apply Array.ext
 ·rw[hs];simp[rT]
 ·intro i h1 h2
  have:=key l i (by omega)
  rw[<-getElem!_pos _ i h1,Go.Sort.get_flatK _ _ _ _ (by simpa using (by omega:i<l.length*2)),this,getElem!_pos _ i (by simpa using h2)]
  simp
theorem EM(zs:List Int)(w:World)(blk off:Nat):putRow id w blk off (zs.map (Value.int .i64)).toArray=putRow (Value.int .i64) w blk off zs.toArray:=by
 simp only[putRow]
 congr 1
 funext c
 apply Array.ext
 ·simp[putCells]
 ·intro i h1 h2
  simp only[putCells,Array.getElem_mapIdx,List.size_toArray,List.length_map]
  split
  ·rename_i hc
   rw[getElem!_pos _ _ (by simpa using (by omega:i-off<zs.length)),getElem!_pos zs.toArray _ (by simpa using (by omega:i-off<zs.length))]
   simp
  ·rfl
theorem HJ{zs:List Int}{w:World}{blk off:Nat}(h:Holds (Value.int .i64) w blk off zs.toArray):Holds id w blk off (zs.map (Value.int .i64)).toArray:=by
 intro j hj
 have hj':j<zs.length:=by simpa using hj
 obtain⟨h1,h2⟩:=h j (by simpa using hj')
 refine⟨?_,h2⟩
 rw[h1,getElem!_pos (zs.map (Value.int .i64)).toArray j hj,getElem!_pos zs.toArray j (by simpa using hj')]
 simp
theorem JC{l:List Sp}(h:∀p∈l,jY p=false):(l.map fun p=>(xB p).1)=l:=by
 have:=C6 h
 rwa [List.map_map]at this
theorem GL{P:Program}{r:Go.Shelf.Ren}(L:Go.Proofs.SlLaysF0.n6 P r)(aE:∀w,(Go.isAgg (r.t 24)).run P w = .ok true w)(zE:∀w,(Go.sizeOf (r.t 24)).run P w = .ok 2 w)(g:Nat)
  (eg:∀args w,(callFunc g args).run P w = .ok (.enter g args) w)
  (hcmp:∀(x y:GP)(W:World),Calls P g #[.agg (AN x).toArray,.agg (AN y).toArray] W fun e w'=>e = .returned (.int .i64 (cfP x y))/\∃q os',w'=grow (W.drewN q) os')
  (blk off cap:Nat) (l:List Sp) (w:World) (hok:∀p∈l,jY p=false) (hH:Holds (Value.int .i64) w blk off (lZ l).toArray) (hb:blk<w.heap.size) (hl:l.length<=16777216) :
  Calls P (r.f 6) #[.slice (some ⟨blk,off,none⟩) l.length cap,.func (.func g) #[] #[]] w fun e w'=>e = .returned (.tuple #[])/\∃n os,w'=grow (putRow (Value.int .i64) (Sort.ahead w n) blk off (lZ (qA l)).toArray) os:=by
 have hsz:(gpA l).size=l.length:=NX l
 have h:=Go.Proofs.AnyQ.slices_SortFunc_eq L 2 aE zE AN (fun _=>rfl) (fun x v hv=>by simp[AN]at hv;rcases hv with rfl|rfl<;>rfl) cfP VL g #[] blk off cap (gpA l) w eg
  (fun _ _ _ _ x y=>hcmp x y _) (by
   unfold Go.Sort.HoldsK gpA
   rw[JL,JC hok]
   exact HJ hH) hb (by omega)
 rw[hsz]at h
 refine h.mono ?_
 rintro e w' ⟨rfl,n,os,rfl⟩
 refine⟨rfl,n,os,?_⟩
 have e1:CZ l=((qA l).map xB).toArray:=by
  rw[oL hok,KJ,List.map_map]
  have:(xB ∘ fun x:GP=>x.1)=id:=by
   funext x
   apply Subtype.ext
   exact DT x.2
  rw[this]
  simp
 have hok2:∀p∈qA l,jY p=false:=by
  intro p hp
  rw[oL hok]at hp
  exact hok p ((xK hok).1.subset hp)
 have e2:pdq (Go.Proofs.ltOf cfP) (gpA l) 0 l.length (Lib.bitLen l.length) true true=CZ l:=by rw[CZ,hsz]
 rw[e2,e1,Go.Proofs.sortWorldK,Go.Sort.putRowK,JL,JC hok2,EM]
section
variable{P:Program}{num:Nm}{gl:Nat->Option AV}{aQ:Nat->Nat}
theorem P0(hfn:AR P (num 636))
  (hc:∀(blk off cap:Nat)(l:List Sp)(w:World),(∀p∈l,jY p=false)->Holds (Value.int .i64) w blk off (lZ l).toArray->blk<w.heap.size->l.length<=16777216 ->
   Calls P (num 636) #[.slice (some ⟨blk,off,none⟩) l.length cap,.func (.func (num 637)) #[] #[]] w fun e w'=>e = .returned (.tuple #[])/\∃n os,w'=grow (putRow (Value.int .i64) (Sort.ahead w n) blk off (lZ (qA l)).toArray) os)
  (hn:∀(p:Option Addr)(cap:Nat)(fv:Value)(w:World),Calls P (num 636) #[.slice p 0 cap,fv] w fun e w'=>e = .returned (.tuple #[])/\w'=w) :
  hQ P num gl aQ ⟨fun f' avs kb h=>if f'=636 then rY avs kb h else none,fun _ _ _ _=>none⟩:=by
 intro f avs kb h r h' hr
 dsimp only at hr
 split at hr
 case isFalse=>cases hr
 rename_i hf
 subst hf
 refine⟨hfn,?_⟩
 intro Fb B0 ρ O w vs H hG hv
 have htup:∀{ρ : Rho}{w:World}{F:Nat->Prop},Rv num ρ w F (.tup []) (.tuple #[]):=.tup _ _ rfl (fun i x y hx=>by simp at hx)
 unfold rY at hr
 split at hr
 ·cases hr
  cases hv with
  |@cons _ c1 _ _ hrv h2=>
   obtain⟨c2,rfl,hrf⟩:=kM h2
   have:∃p cap,c1 = .slice p 0 cap:=by cases hrv<;>exact⟨_,_,rfl⟩
   obtain⟨p,cap,rfl⟩:=this
   refine(hn p cap c2 w).mono ?_
   rintro e w' ⟨rfl,rfl⟩
   exact⟨_,ρ,O,rfl,Evo.refl _ _ _,H,htup⟩
 ·rename_i k e off len cap
  split at hr
  case h_2=>cases hr
  rename_i e' cs ti hg
  split at hr
  case isFalse=>cases hr
  rename_i hcond
  obtain⟨rfl,hle,hbig⟩:=hcond
  split at hr
  case h_2=>cases hr
  rename_i l hl
  split at hr
  case isFalse=>cases hr
  rename_i hall
  cases hr
  have hok:∀p∈l,jY p=false:=by
   rw[List.all_eq_true]at hall
   intro p hp
   simpa using hall p hp
  cases hv with
  |cons hrv h2=>
   obtain⟨c2,rfl,hrf⟩:=kM h2
   have hc2:c2 = .func (.func (num 637)) #[] #[]:=by
    cases hrf with
    |fn f cs vs hl h=>
     have:vs = #[]:=by
      apply Array.ext
      ·simpa using hl.symm
      ·intro i h1 h2;simp at h2
     rw[this]
   subst hc2
   cases hrv with
   |rf _ _ _ _ _ cap' L hL hlen hcap ht hroom=>
    have hzs:(cs.drop off).take (len*2)=(lZ l).map aG:=by rw[<-pD];exact D1 hl
    obtain⟨hH,hb,hzl⟩:=yK H hg hL hzs hle
    rw[rT]at hzl
    have hll:l.length=len:=by omega
    have hcall:=hc L.b (L.base+off) cap' l w hok hH hb (by omega)
    rw[hll]at hcall
    refine hcall.mono ?_
    rintro e w' ⟨rfl,n,os,rfl⟩
    have hql:(qA l).length=l.length:=by rw[oL hok];exact(xK hok).1.length_eq
    obtain⟨ev,H1⟩:=GR (n:=n) H hg hL (zs:=lZ (qA l)) (by rw[rT,hql];omega) hle
    obtain⟨ev2,H2⟩:=mM H1 (zF _ os)
    refine⟨_,ρ,O,rfl,ev.trans ev2,?_,htup⟩
    rw[pD]
    exact H2
 ·cases hr
end
end Go.Tev
end
section
namespace Go.Proofs
open Go.Shelf Go.RowKit Go.Lib Go.Sort
def Tryz.sortPl_ren:Go.Shelf.Ren:=⟨fun|6=>50|15=>87|14=>86|28=>139|29=>140|20=>131|21=>132|22=>133|23=>134|24=>135|25=>136|26=>137|27=>138|46=>205|47=>206|48=>207|49=>208|50=>209|57=>253|n=>n,fun|22=>32|24=>43|25=>106|3=>3|39=>114|0=>0|53=>150|55=>153|4=>4|46=>185|45=>184|50=>111|5=>5|9=>9|66=>239|70=>243|76=>270|77=>271|n=>n,fun|n=>n⟩
theorem Tryz.sortPl:Go.Proofs.SlLaysF0.n6 Tryz.prog Tryz.sortPl_ren:={
 mixed:=by kernel_rfl
 f6:=⟨Tryz.f50.name,by decide,Tryz.func50.trans (congrArg some (by kernel_rfl))⟩
 f14:=⟨Tryz.f86.name,by decide,Tryz.func86.trans (congrArg some (by kernel_rfl))⟩
 f15:=Tryz.func87.trans (congrArg some (by kernel_rfl))
 f20:=⟨Tryz.f131.name,by decide,Tryz.func131.trans (congrArg some (by kernel_rfl))⟩
 f21:=⟨Tryz.f132.name,by decide,Tryz.func132.trans (congrArg some (by kernel_rfl))⟩
 f22:=⟨Tryz.f133.name,by decide,Tryz.func133.trans (congrArg some (by kernel_rfl))⟩
 f23:=⟨Tryz.f134.name,by decide,Tryz.func134.trans (congrArg some (by kernel_rfl))⟩
 f24:=⟨Tryz.f135.name,by decide,Tryz.func135.trans (congrArg some (by kernel_rfl))⟩
 f25:=⟨Tryz.f136.name,by decide,Tryz.func136.trans (congrArg some (by kernel_rfl))⟩
 f26:=⟨Tryz.f137.name,by decide,Tryz.func137.trans (congrArg some (by kernel_rfl))⟩
 f27:=⟨Tryz.f138.name,by decide,Tryz.func138.trans (congrArg some (by kernel_rfl))⟩
 f28:=Tryz.func139.trans (congrArg some (by kernel_rfl))
 f29:=Tryz.func140.trans (congrArg some (by kernel_rfl))
 f46:=⟨Tryz.f205.name,by decide,Tryz.func205.trans (congrArg some (by kernel_rfl))⟩
 f47:=Tryz.func206.trans (congrArg some (by kernel_rfl))
 f48:=Tryz.func207.trans (congrArg some (by kernel_rfl))
 f49:=⟨Tryz.f208.name,by decide,Tryz.func208.trans (congrArg some (by kernel_rfl))⟩
 f50:=⟨Tryz.f209.name,by decide,Tryz.func209.trans (congrArg some (by kernel_rfl))⟩
 f57:=⟨Tryz.f253.name,by decide,Tryz.func253.trans (congrArg some (by kernel_rfl))⟩
 t0:=Tryz.underlying0
 a0:=Tryz.isAgg0
 z0:=Tryz.sizeOf0
 v0:=Tryz.zeroValue0
 t3:=Tryz.underlying3
 a3:=Tryz.isAgg3
 z3:=Tryz.sizeOf3
 v3:=Tryz.zeroValue3
 t4:=Tryz.underlying4
 a4:=Tryz.isAgg4
 z4:=Tryz.sizeOf4
 v4:=Tryz.zeroValue4
 t5:=Tryz.underlying5
 a5:=Tryz.isAgg5
 z5:=Tryz.sizeOf5
 v5:=Tryz.zeroValue5
 t9:=Tryz.underlying9
 a9:=Tryz.isAgg9
 z9:=Tryz.sizeOf9
 v9:=Tryz.zeroValue9
 t22:=Tryz.underlying32
 a22:=Tryz.isAgg32
 z22:=Tryz.sizeOf32
 v22:=Tryz.zeroValue32
 t25:=Tryz.underlying106
 a25:=Tryz.isAgg106
 z25:=Tryz.sizeOf106
 v25:=Tryz.zeroValue106
 t39:=Tryz.underlying114
 a39:=Tryz.isAgg114
 z39:=Tryz.sizeOf114
 v39:=Tryz.zeroValue114
 t45:=Tryz.underlying184
 a45:=Tryz.isAgg184
 z45:=Tryz.sizeOf184
 v45:=Tryz.zeroValue184
 t46:=Tryz.underlying185
 a46:=Tryz.isAgg185
 z46:=Tryz.sizeOf185
 v46:=Tryz.zeroValue185
 t50:=Tryz.underlying111
 a50:=Tryz.isAgg111
 z50:=Tryz.sizeOf111
 v50:=Tryz.zeroValue111
 t53:=Tryz.underlying150
 a53:=Tryz.isAgg150
 z53:=Tryz.sizeOf150
 v53:=Tryz.zeroValue150
 t55:=Tryz.underlying153
 a55:=Tryz.isAgg153
 z55:=Tryz.sizeOf153
 v55:=Tryz.zeroValue153
 t66:=Tryz.underlying239
 a66:=Tryz.isAgg239
 z66:=Tryz.sizeOf239
 v66:=Tryz.zeroValue239
 t70:=Tryz.underlying243
 a70:=Tryz.isAgg243
 z70:=Tryz.sizeOf243
 v70:=Tryz.zeroValue243
 t76:=Tryz.underlying270
 a76:=Tryz.isAgg270
 z76:=Tryz.sizeOf270
 v76:=Tryz.zeroValue270
 t77:=Tryz.underlying271
 a77:=Tryz.isAgg271
 z77:=Tryz.sizeOf271
 v77:=Tryz.zeroValue271}
open Go.Tev in
theorem OT(x y:GP)(W:World):Calls Tryz.prog 51 #[.agg (AN x).toArray,.agg (AN y).toArray] W fun e w'=>e = .returned (.int .i64 (cfP x y))/\∃q os',w'=grow (W.drewN q) os':=by
 have hw:IntKind.i64.wrap (x.1.1-y.1.1)=x.1.1-y.1.1:=by
  have h1:=tK x.2
  have h2:=tK y.2
  simp[IntKind.wrap,IntKind.bits,IntKind.signed]
  omega
 unfold AN cfP
 generalize x.1.1=a at hw ⊢
 generalize x.1.2=b
 generalize y.1.1=c at hw ⊢
 generalize y.1.2=d
 go_enter Tryz.func51,Tryz.ntmps51
 go_wp2
 go_ret
 exact⟨rfl,0,_,by rw[alloc_eq_grow,alloc_eq_grow,grow_grow];rfl⟩
open Go.Tev in
theorem GK(blk off cap:Nat)(l:List Sp)(w:World)(hok:∀p∈l,jY p=false)(hH:Holds (Value.int .i64) w blk off (lZ l).toArray)(hb:blk<w.heap.size)(hl:l.length<=16777216) :
  Calls Tryz.prog 50 #[.slice (some ⟨blk,off,none⟩) l.length cap,.func (.func 51) #[] #[]] w fun e w'=>e = .returned (.tuple #[])/\∃n os,w'=grow (putRow (Value.int .i64) (Sort.ahead w n) blk off (lZ (qA l)).toArray) os:=
 GL Tryz.sortPl Tryz.isAgg43 Tryz.sizeOf43 51 (enters_of Tryz.func51 (by kernel_rfl) rfl) OT blk off cap l w hok hH hb hl
end Go.Proofs
end
section
namespace Go.Proofs
open Go.Shelf
def Tryz.laysM171_ren:Go.Shelf.Ren:=⟨fun|171=>166|243=>225|246=>262|283=>292|284=>293|285=>294|286=>295|129=>140|317=>307|318=>308|319=>309|320=>310|337=>316|338=>317|n=>n,fun|3=>3|9=>9|2=>2|4=>4|171=>305|0=>0|53=>153|37=>208|5=>5|173=>307|212=>320|51=>150|20=>20|213=>321|46=>114|232=>330|233=>331|n=>n,fun|17=>2|18=>6|19=>7|n=>n⟩
theorem Tryz.laysM171:Go.Proofs.LaysM.n171 Tryz.prog Tryz.laysM171_ren:={
 mixed:=by kernel_rfl
 f129:=Tryz.func140.trans (congrArg some (by kernel_rfl))
 f171:=Tryz.func166.trans (congrArg some (by kernel_rfl))
 f243:=Tryz.func225.trans (congrArg some (by kernel_rfl))
 f246:=Tryz.func262.trans (congrArg some (by kernel_rfl))
 f283:=Tryz.func292.trans (congrArg some (by kernel_rfl))
 f284:=Tryz.func293.trans (congrArg some (by kernel_rfl))
 f285:=Tryz.func294.trans (congrArg some (by kernel_rfl))
 f286:=Tryz.func295.trans (congrArg some (by kernel_rfl))
 f317:=Tryz.func307.trans (congrArg some (by kernel_rfl))
 f318:=Tryz.func308.trans (congrArg some (by kernel_rfl))
 f319:=Tryz.func309.trans (congrArg some (by kernel_rfl))
 f320:=Tryz.func310.trans (congrArg some (by kernel_rfl))
 f337:=Tryz.func316.trans (congrArg some (by kernel_rfl))
 f338:=Tryz.func317.trans (congrArg some (by kernel_rfl))
 t0:=Tryz.underlying0
 a0:=Tryz.isAgg0
 z0:=Tryz.sizeOf0
 v0:=Tryz.zeroValue0
 t2:=Tryz.underlying2
 a2:=Tryz.isAgg2
 z2:=Tryz.sizeOf2
 v2:=Tryz.zeroValue2
 t3:=Tryz.underlying3
 a3:=Tryz.isAgg3
 z3:=Tryz.sizeOf3
 v3:=Tryz.zeroValue3
 t4:=Tryz.underlying4
 a4:=Tryz.isAgg4
 z4:=Tryz.sizeOf4
 v4:=Tryz.zeroValue4
 t5:=Tryz.underlying5
 a5:=Tryz.isAgg5
 z5:=Tryz.sizeOf5
 v5:=Tryz.zeroValue5
 t9:=Tryz.underlying9
 a9:=Tryz.isAgg9
 z9:=Tryz.sizeOf9
 v9:=Tryz.zeroValue9
 t20:=Tryz.underlying20
 a20:=Tryz.isAgg20
 z20:=Tryz.sizeOf20
 v20:=Tryz.zeroValue20
 t37:=Tryz.underlying208
 a37:=Tryz.isAgg208
 z37:=Tryz.sizeOf208
 v37:=Tryz.zeroValue208
 t46:=Tryz.underlying114
 a46:=Tryz.isAgg114
 z46:=Tryz.sizeOf114
 v46:=Tryz.zeroValue114
 t51:=Tryz.underlying150
 a51:=Tryz.isAgg150
 z51:=Tryz.sizeOf150
 v51:=Tryz.zeroValue150
 t53:=Tryz.underlying153
 a53:=Tryz.isAgg153
 z53:=Tryz.sizeOf153
 v53:=Tryz.zeroValue153
 t171:=Tryz.underlying305
 a171:=Tryz.isAgg305
 z171:=Tryz.sizeOf305
 v171:=Tryz.zeroValue305
 t173:=Tryz.underlying307
 a173:=Tryz.isAgg307
 z173:=Tryz.sizeOf307
 v173:=Tryz.zeroValue307
 t212:=Tryz.underlying320
 a212:=Tryz.isAgg320
 z212:=Tryz.sizeOf320
 v212:=Tryz.zeroValue320
 t213:=Tryz.underlying321
 a213:=Tryz.isAgg321
 z213:=Tryz.sizeOf321
 t232:=Tryz.underlying330
 a232:=Tryz.isAgg330
 z232:=Tryz.sizeOf330
 v232:=Tryz.zeroValue330
 t233:=Tryz.underlying331
 a233:=Tryz.isAgg331
 z233:=Tryz.sizeOf331
 v233:=Tryz.zeroValue331
 g17:=by kernel_rfl
 g18:=by kernel_rfl
 g19:=by kernel_rfl
 i0:=by kernel_rfl
 i2:=by kernel_rfl
 i3:=by kernel_rfl
 i4:=by kernel_rfl
 i5:=by kernel_rfl
 i9:=by kernel_rfl
 i20:=by kernel_rfl
 i37:=by kernel_rfl
 i46:=by kernel_rfl
 i51:=by kernel_rfl
 i53:=by kernel_rfl
 i171:=by kernel_rfl
 i173:=by kernel_rfl
 i212:=by kernel_rfl
 i232:=by kernel_rfl
 i233:=by kernel_rfl
 m17:=by kernel_rfl
 m18:=by kernel_rfl
 m19:=by kernel_rfl}
def Tryz.laysC172_ren:Go.Shelf.Ren:=⟨fun|172=>165|244=>223|245=>224|247=>257|279=>258|280=>259|281=>260|282=>261|287=>289|316=>290|171=>166|205=>291|321=>305|322=>306|243=>225|246=>262|283=>292|284=>293|285=>294|286=>295|129=>140|317=>307|318=>308|319=>309|320=>310|337=>316|338=>317|n=>n,fun|9=>9|3=>3|75=>205|76=>206|4=>4|5=>5|167=>273|37=>208|0=>0|85=>274|2=>2|168=>276|53=>153|175=>299|46=>114|210=>303|127=>316|145=>319|143=>317|21=>21|171=>305|173=>307|212=>320|51=>150|20=>20|213=>321|232=>330|233=>331|80=>332|n=>n,fun|15=>0|16=>1|17=>2|18=>6|19=>7|n=>n⟩
theorem Tryz.laysC172:Go.Proofs.LaysC.n172 Tryz.prog Tryz.laysC172_ren:={
 mixed:=by kernel_rfl
 f129:=Tryz.func140.trans (congrArg some (by kernel_rfl))
 f171:=Tryz.func166.trans (congrArg some (by kernel_rfl))
 f172:=Tryz.func165.trans (congrArg some (by kernel_rfl))
 f205:=Tryz.func291.trans (congrArg some (by kernel_rfl))
 f243:=Tryz.func225.trans (congrArg some (by kernel_rfl))
 f244:=Tryz.func223.trans (congrArg some (by kernel_rfl))
 f245:=Tryz.func224.trans (congrArg some (by kernel_rfl))
 f246:=Tryz.func262.trans (congrArg some (by kernel_rfl))
 f247:=Tryz.func257.trans (congrArg some (by kernel_rfl))
 f279:=Tryz.func258.trans (congrArg some (by kernel_rfl))
 f280:=Tryz.func259.trans (congrArg some (by kernel_rfl))
 f281:=Tryz.func260.trans (congrArg some (by kernel_rfl))
 f282:=Tryz.func261.trans (congrArg some (by kernel_rfl))
 f283:=Tryz.func292.trans (congrArg some (by kernel_rfl))
 f284:=Tryz.func293.trans (congrArg some (by kernel_rfl))
 f285:=Tryz.func294.trans (congrArg some (by kernel_rfl))
 f286:=Tryz.func295.trans (congrArg some (by kernel_rfl))
 f287:=Tryz.func289.trans (congrArg some (by kernel_rfl))
 f316:=Tryz.func290.trans (congrArg some (by kernel_rfl))
 f317:=Tryz.func307.trans (congrArg some (by kernel_rfl))
 f318:=Tryz.func308.trans (congrArg some (by kernel_rfl))
 f319:=Tryz.func309.trans (congrArg some (by kernel_rfl))
 f320:=Tryz.func310.trans (congrArg some (by kernel_rfl))
 f321:=Tryz.func305.trans (congrArg some (by kernel_rfl))
 f322:=Tryz.func306.trans (congrArg some (by kernel_rfl))
 f337:=Tryz.func316.trans (congrArg some (by kernel_rfl))
 f338:=Tryz.func317.trans (congrArg some (by kernel_rfl))
 t0:=Tryz.underlying0
 a0:=Tryz.isAgg0
 z0:=Tryz.sizeOf0
 v0:=Tryz.zeroValue0
 t2:=Tryz.underlying2
 a2:=Tryz.isAgg2
 z2:=Tryz.sizeOf2
 v2:=Tryz.zeroValue2
 t3:=Tryz.underlying3
 a3:=Tryz.isAgg3
 z3:=Tryz.sizeOf3
 v3:=Tryz.zeroValue3
 t4:=Tryz.underlying4
 a4:=Tryz.isAgg4
 z4:=Tryz.sizeOf4
 v4:=Tryz.zeroValue4
 t5:=Tryz.underlying5
 a5:=Tryz.isAgg5
 z5:=Tryz.sizeOf5
 v5:=Tryz.zeroValue5
 t9:=Tryz.underlying9
 a9:=Tryz.isAgg9
 z9:=Tryz.sizeOf9
 v9:=Tryz.zeroValue9
 t20:=Tryz.underlying20
 a20:=Tryz.isAgg20
 z20:=Tryz.sizeOf20
 v20:=Tryz.zeroValue20
 t21:=Tryz.underlying21
 a21:=Tryz.isAgg21
 z21:=Tryz.sizeOf21
 v21:=Tryz.zeroValue21
 t37:=Tryz.underlying208
 a37:=Tryz.isAgg208
 z37:=Tryz.sizeOf208
 v37:=Tryz.zeroValue208
 t46:=Tryz.underlying114
 a46:=Tryz.isAgg114
 z46:=Tryz.sizeOf114
 v46:=Tryz.zeroValue114
 t51:=Tryz.underlying150
 a51:=Tryz.isAgg150
 z51:=Tryz.sizeOf150
 v51:=Tryz.zeroValue150
 t53:=Tryz.underlying153
 a53:=Tryz.isAgg153
 z53:=Tryz.sizeOf153
 v53:=Tryz.zeroValue153
 t75:=Tryz.underlying205
 a75:=Tryz.isAgg205
 z75:=Tryz.sizeOf205
 v75:=Tryz.zeroValue205
 t76:=Tryz.underlying206
 a76:=Tryz.isAgg206
 z76:=Tryz.sizeOf206
 v76:=Tryz.zeroValue206
 t85:=Tryz.underlying274
 a85:=Tryz.isAgg274
 z85:=Tryz.sizeOf274
 v85:=Tryz.zeroValue274
 t127:=Tryz.underlying316
 a127:=Tryz.isAgg316
 z127:=Tryz.sizeOf316
 v127:=Tryz.zeroValue316
 t143:=Tryz.underlying317
 a143:=Tryz.isAgg317
 z143:=Tryz.sizeOf317
 v143:=Tryz.zeroValue317
 t145:=Tryz.underlying319
 a145:=Tryz.isAgg319
 z145:=Tryz.sizeOf319
 v145:=Tryz.zeroValue319
 t167:=Tryz.underlying273
 a167:=Tryz.isAgg273
 z167:=Tryz.sizeOf273
 v167:=Tryz.zeroValue273
 t168:=Tryz.underlying276
 a168:=Tryz.isAgg276
 z168:=Tryz.sizeOf276
 v168:=Tryz.zeroValue276
 t171:=Tryz.underlying305
 a171:=Tryz.isAgg305
 z171:=Tryz.sizeOf305
 v171:=Tryz.zeroValue305
 t173:=Tryz.underlying307
 a173:=Tryz.isAgg307
 z173:=Tryz.sizeOf307
 v173:=Tryz.zeroValue307
 t175:=Tryz.underlying299
 a175:=Tryz.isAgg299
 z175:=Tryz.sizeOf299
 v175:=Tryz.zeroValue299
 t210:=Tryz.underlying303
 a210:=Tryz.isAgg303
 z210:=Tryz.sizeOf303
 v210:=Tryz.zeroValue303
 t212:=Tryz.underlying320
 a212:=Tryz.isAgg320
 z212:=Tryz.sizeOf320
 v212:=Tryz.zeroValue320
 t213:=Tryz.underlying321
 a213:=Tryz.isAgg321
 z213:=Tryz.sizeOf321
 t232:=Tryz.underlying330
 a232:=Tryz.isAgg330
 z232:=Tryz.sizeOf330
 v232:=Tryz.zeroValue330
 t233:=Tryz.underlying331
 a233:=Tryz.isAgg331
 z233:=Tryz.sizeOf331
 v233:=Tryz.zeroValue331
 g15:=by kernel_rfl
 g16:=by kernel_rfl
 g17:=by kernel_rfl
 g18:=by kernel_rfl
 g19:=by kernel_rfl
 t80:=Tryz.underlying332
 a80:=Tryz.isAgg332
 z80:=Tryz.sizeOf332
 v80:=Tryz.zeroValue332
 i0:=by kernel_rfl
 i2:=by kernel_rfl
 i3:=by kernel_rfl
 i4:=by kernel_rfl
 i5:=by kernel_rfl
 i9:=by kernel_rfl
 i20:=by kernel_rfl
 i21:=by kernel_rfl
 i37:=by kernel_rfl
 i46:=by kernel_rfl
 i51:=by kernel_rfl
 i53:=by kernel_rfl
 i75:=by kernel_rfl
 i76:=by kernel_rfl
 i80:=by kernel_rfl
 i85:=by kernel_rfl
 i127:=by kernel_rfl
 i143:=by kernel_rfl
 i145:=by kernel_rfl
 i167:=by kernel_rfl
 i168:=by kernel_rfl
 i171:=by kernel_rfl
 i173:=by kernel_rfl
 i175:=by kernel_rfl
 i210:=by kernel_rfl
 i212:=by kernel_rfl
 i232:=by kernel_rfl
 i233:=by kernel_rfl
 m15:=by kernel_rfl
 m16:=by kernel_rfl
 m17:=by kernel_rfl
 m18:=by kernel_rfl
 m19:=by kernel_rfl
 c0:=by kernel_rfl
 c2:=by kernel_rfl
 c3:=by kernel_rfl
 c4:=by kernel_rfl
 c5:=by kernel_rfl
 c9:=by kernel_rfl
 c20:=by kernel_rfl
 c21:=by kernel_rfl
 c37:=by kernel_rfl
 c46:=by kernel_rfl
 c51:=by kernel_rfl
 c53:=by kernel_rfl
 c75:=by kernel_rfl
 c76:=by kernel_rfl
 c80:=by kernel_rfl
 c85:=by kernel_rfl
 c127:=by kernel_rfl
 c143:=by kernel_rfl
 c145:=by kernel_rfl
 c167:=by kernel_rfl
 c168:=by kernel_rfl
 c171:=by kernel_rfl
 c173:=by kernel_rfl
 c175:=by kernel_rfl
 c210:=by kernel_rfl
 c212:=by kernel_rfl
 c213:=by kernel_rfl
 c232:=by kernel_rfl
 c233:=by kernel_rfl}
def Tryz.lays189_ren:Go.Shelf.Ren:=⟨fun|189=>83|125=>87|257=>130|128=>139|129=>140|294=>196|295=>197|296=>198|297=>199|298=>200|299=>201|216=>202|300=>203|301=>204|328=>249|329=>206|330=>207|331=>250|332=>251|215=>252|343=>285|n=>n,fun|28=>26|3=>3|46=>114|0=>0|51=>150|53=>153|4=>4|183=>185|182=>184|131=>111|5=>5|9=>9|218=>239|222=>243|228=>270|229=>271|n=>n,fun|n=>n⟩
theorem Tryz.lays189:Go.Proofs.Lays.n189 Tryz.prog Tryz.lays189_ren:={
 mixed:=by kernel_rfl
 f125:=Tryz.func87.trans (congrArg some (by kernel_rfl))
 f128:=Tryz.func139.trans (congrArg some (by kernel_rfl))
 f129:=Tryz.func140.trans (congrArg some (by kernel_rfl))
 f189:=Tryz.func83.trans (congrArg some (by kernel_rfl))
 f215:=Tryz.func252.trans (congrArg some (by kernel_rfl))
 f216:=Tryz.func202.trans (congrArg some (by kernel_rfl))
 f257:=Tryz.func130.trans (congrArg some (by kernel_rfl))
 f294:=Tryz.func196.trans (congrArg some (by kernel_rfl))
 f295:=Tryz.func197.trans (congrArg some (by kernel_rfl))
 f296:=Tryz.func198.trans (congrArg some (by kernel_rfl))
 f297:=Tryz.func199.trans (congrArg some (by kernel_rfl))
 f298:=Tryz.func200.trans (congrArg some (by kernel_rfl))
 f299:=Tryz.func201.trans (congrArg some (by kernel_rfl))
 f300:=Tryz.func203.trans (congrArg some (by kernel_rfl))
 f301:=Tryz.func204.trans (congrArg some (by kernel_rfl))
 f328:=Tryz.func249.trans (congrArg some (by kernel_rfl))
 f329:=Tryz.func206.trans (congrArg some (by kernel_rfl))
 f330:=Tryz.func207.trans (congrArg some (by kernel_rfl))
 f331:=Tryz.func250.trans (congrArg some (by kernel_rfl))
 f332:=Tryz.func251.trans (congrArg some (by kernel_rfl))
 f343:=Tryz.func285.trans (congrArg some (by kernel_rfl))
 t0:=Tryz.underlying0
 a0:=Tryz.isAgg0
 z0:=Tryz.sizeOf0
 v0:=Tryz.zeroValue0
 t3:=Tryz.underlying3
 a3:=Tryz.isAgg3
 z3:=Tryz.sizeOf3
 v3:=Tryz.zeroValue3
 t4:=Tryz.underlying4
 a4:=Tryz.isAgg4
 z4:=Tryz.sizeOf4
 v4:=Tryz.zeroValue4
 t5:=Tryz.underlying5
 a5:=Tryz.isAgg5
 z5:=Tryz.sizeOf5
 v5:=Tryz.zeroValue5
 t9:=Tryz.underlying9
 a9:=Tryz.isAgg9
 z9:=Tryz.sizeOf9
 v9:=Tryz.zeroValue9
 t28:=Tryz.underlying26
 a28:=Tryz.isAgg26
 z28:=Tryz.sizeOf26
 v28:=Tryz.zeroValue26
 t46:=Tryz.underlying114
 a46:=Tryz.isAgg114
 z46:=Tryz.sizeOf114
 v46:=Tryz.zeroValue114
 t51:=Tryz.underlying150
 a51:=Tryz.isAgg150
 z51:=Tryz.sizeOf150
 v51:=Tryz.zeroValue150
 t53:=Tryz.underlying153
 a53:=Tryz.isAgg153
 z53:=Tryz.sizeOf153
 v53:=Tryz.zeroValue153
 t131:=Tryz.underlying111
 a131:=Tryz.isAgg111
 z131:=Tryz.sizeOf111
 v131:=Tryz.zeroValue111
 t182:=Tryz.underlying184
 a182:=Tryz.isAgg184
 z182:=Tryz.sizeOf184
 v182:=Tryz.zeroValue184
 t183:=Tryz.underlying185
 a183:=Tryz.isAgg185
 z183:=Tryz.sizeOf185
 v183:=Tryz.zeroValue185
 t218:=Tryz.underlying239
 a218:=Tryz.isAgg239
 z218:=Tryz.sizeOf239
 v218:=Tryz.zeroValue239
 t222:=Tryz.underlying243
 a222:=Tryz.isAgg243
 z222:=Tryz.sizeOf243
 v222:=Tryz.zeroValue243
 t228:=Tryz.underlying270
 a228:=Tryz.isAgg270
 z228:=Tryz.sizeOf270
 v228:=Tryz.zeroValue270
 t229:=Tryz.underlying271
 a229:=Tryz.isAgg271
 z229:=Tryz.sizeOf271
 v229:=Tryz.zeroValue271}
def Tryz.laysNm220_ren:Go.Shelf.Ren:=⟨fun|20=>84|n=>n,fun|22=>26|3=>3|4=>4|0=>0|n=>n,fun|n=>n⟩
theorem Tryz.laysNm220:Go.Proofs.Lays2.n20 Tryz.prog Tryz.laysNm220_ren:={
 mixed:=by kernel_rfl
 f20:=Tryz.func84.trans (congrArg some (by kernel_rfl))
 t0:=Tryz.underlying0
 a0:=Tryz.isAgg0
 z0:=Tryz.sizeOf0
 v0:=Tryz.zeroValue0
 t3:=Tryz.underlying3
 a3:=Tryz.isAgg3
 z3:=Tryz.sizeOf3
 v3:=Tryz.zeroValue3
 t4:=Tryz.underlying4
 a4:=Tryz.isAgg4
 z4:=Tryz.sizeOf4
 v4:=Tryz.zeroValue4
 t22:=Tryz.underlying26
 a22:=Tryz.isAgg26
 z22:=Tryz.sizeOf26
 v22:=Tryz.zeroValue26
 i3:=by kernel_rfl}
open Go.RowKit Go.Sort Go.Lib in
theorem Tryz.strconv_Itoa(n:Int)(h0 : -9223372036854775808<=n)(h1:n<=9223372036854775807)(w:World){T:TypeId}{fr:Nat×Nat}(ht:w.heap[2]?=some (.cells (Lib.pow10Tab.map fun z=>Value.int .u64 z).toArray T fr)) :
  Calls Tryz.prog 166 #[.int .i64 n] w fun e w'=>e = .returned (.string ⟨(Lib.itoa n).toArray⟩)/\∃k os,w'=grow (w.drewN k) os:=by
 refine Any.strconv_Itoa Tryz.laysM171 n h0 h1 w ?_
 unfold Lib.TabIs World.var?
 rw[show Tryz.prog.globalNamed _=some 2 by kernel_rfl,Option.bind_some,ht]
open Go.RowKit in
theorem Tryz.strconv_Atoi_ok(s:ByteArray)(hmax:s.size<=9223372036854775806)(v:Int)(h:Lib.atoiAll s.data.toList = .ok v)(w:World) :
  Calls Tryz.prog 165 #[.string s] w fun e w'=>e = .returned (.tuple #[.int .i64 v,.nilIface])/\(w'=w\/∃t,w'=Lib.bytesWorld w 5 t):=Any.strconv_Atoi_ok Tryz.laysC172 s hmax v h w
open Go.RowKit in
theorem Tryz.strconv_Atoi_bad(s:ByteArray)(hlim:s.size<=281474976710656)(h1:∀v,Lib.atoiAll s.data.toList ≠ .ok v)(h2:Lib.atoiAll s.data.toList ≠ .range)(ev:Value)(w:World)(hv:w.cell? ⟨0,0,none⟩=some ev)(hev:ev = .nilIface\/∃te pe,ev = .iface te pe) :
  Calls Tryz.prog 165 #[.string s] w fun e w'=>∃N,e = .returned (.tuple #[.int .i64 (0),.iface 276 (.pointer (some ⟨N,0,none⟩))])/\w.heap.size<=N/\w'.heap[N]?=some (.cells #[.string ⟨#[65,116,111,105]⟩,.string s,ev] 303 (0,0))/\Below w.heap.size w w':=by
 cases h:Lib.atoiAll s.data.toList
 case ok v=>exact absurd h (h1 v)
 case range=>exact absurd h h2
 exact Any.strconv_Atoi_syntax Tryz.laysC172 s hlim h ev w hv hev
open Go.RowKit in
theorem Tryz.strconv_Atoi_range(s:ByteArray)(hlim:s.size<=281474976710656)(h:Lib.atoiAll s.data.toList = .range)(ev:Value)(w:World)(hv:w.cell? ⟨1,0,none⟩=some ev)(hev:ev = .nilIface\/∃te pe,ev = .iface te pe) :
  Calls Tryz.prog 165 #[.string s] w fun e w'=>∃N,e = .returned (.tuple #[.int .i64 (Lib.atoiSat s.data.toList),.iface 276 (.pointer (some ⟨N,0,none⟩))])/\w.heap.size<=N/\w'.heap[N]?=some (.cells #[.string ⟨#[65,116,111,105]⟩,.string s,ev] 303 (0,0))/\Below w.heap.size w w':=Any.strconv_Atoi_range Tryz.laysC172 s hlim h ev w hv hev
open Go.Sort Go.RowKit in
theorem Tryz.slices_Sort_int(blk off cap:Nat)(zs:List Int)(w:World)(hH:Holds (Value.int .i64) w blk off zs.toArray)(hblk:blk<w.heap.size)(hsz:zs.length<4611686018427387904) :
  Calls Tryz.prog 83 #[.slice (some ⟨blk,off,none⟩) zs.length cap] w fun e w'=>
   e = .returned (.tuple #[])/\∃n os,w'=grow (putRow (Value.int .i64) (Sort.ahead w n) blk off (zs.mergeSort fun x y=>decide (x<=y)).toArray) os:=Any.slices_Sort_int Tryz.lays189 blk off cap zs w hH hblk hsz
open Go.RowKit Go.Lib Go.Sort in
theorem Tryz.slices_Compact_int(blk off cap:Nat)(zs:List Int)(w:World)(hH:Holds (Value.int .i64) w blk off zs.toArray)(hsz:zs.length<=9223372036854775807)(hcap:zs.length<=cap) :
  Calls Tryz.prog 84 #[.slice (some ⟨blk,off,none⟩) zs.length cap] w fun e w'=>e = .returned (.slice (some ⟨blk,off,none⟩) (Lib.compact zs).length cap)/\∃q,w'=putRow (Value.int .i64) (Sort.ahead w q) blk off (Lib.compact zs++List.replicate (zs.length-(Lib.compact zs).length) 0).toArray:=Any.slices_Compact_int Tryz.laysNm220 blk off cap zs w hH hsz hcap
open Go.RowKit Go.Lib Go.Sort in
theorem Tryz.slices_Compact_int_empty(a:Option Addr)(cap:Nat)(w:World) :
  Calls Tryz.prog 84 #[.slice a 0 cap] w fun e w'=>e = .returned (.slice a 0 cap)/\w'=w:=Any.slices_Compact_int_empty Tryz.laysNm220 a cap w
open Go.RowKit Go.Sort in
theorem Tryz.slices_Sort_int_none(p:Option Addr)(cap:Nat)(w:World) :
  Calls Tryz.prog 83 #[.slice p 0 cap] w fun e w'=>e = .returned (.tuple #[])/\w'=w:=Any.slices_Sort_int_none Tryz.lays189 p cap w
end Go.Proofs
end
section
set_option maxRecDepth 100000
namespace Go.Proofs
open Go.Tev
def exB(f:Nat):Option (List AV->Nat->Hp->Option (AV×Hp)):=
 bif f.beq 92 then some tG else bif f.beq 93 then some rI else bif f.beq 75 then some vU else bif f.beq 76 then some vV else bif f.beq 636 then some rY else none
def glS(g:Nat):Option AV:=
 bif g.beq 0 then some (.ifc .top) else bif g.beq 1 then some (.ifc .top) else bif g.beq 2 then some (.agg (Lib.pow10Tab.map fun n => .int .u64 n)) else none
def pgS:Pg:=⟨fun f=>tab.find f,glS,exB⟩
def nm:Nm:=aBC Tryz.prog num aQ
theorem n75:nm.f 75=83:=by kernel_rfl
theorem n76:nm.f 76=84:=by kernel_rfl
theorem n92:nm.f 92=165:=by kernel_rfl
theorem n93:nm.f 93=166:=by kernel_rfl
theorem aBH:AR Tryz.prog (nm.f 75):=by rw[n75];exact⟨Tryz.f83,Tryz.func83,by kernel_rfl,of_decide_eq_true (by kernel_rfl)⟩
theorem aBG:AR Tryz.prog (nm.f 76):=by rw[n76];exact⟨Tryz.f84,Tryz.func84,by kernel_rfl,of_decide_eq_true (by kernel_rfl)⟩
theorem aBF:AR Tryz.prog (nm.f 92):=by rw[n92];exact⟨Tryz.f165,Tryz.func165,by kernel_rfl,of_decide_eq_true (by kernel_rfl)⟩
theorem aBE:AR Tryz.prog (nm.f 93):=by rw[n93];exact⟨Tryz.f166,Tryz.func166,by kernel_rfl,of_decide_eq_true (by kernel_rfl)⟩
theorem V0:hQ Tryz.prog nm glS aQ ⟨fun f' avs kb h=>if f'=93 then rI avs kb h else none,fun _ _ _ _=>none⟩:=by
 refine TI aBE 2 rfl ?_
 intro n h0 h1 w hw
 obtain⟨T,fr,ht⟩:=hw
 have ht':w.heap[2]?=some (.cells (Lib.pow10Tab.map fun z=>Value.int .u64 z).toArray T fr):=ht
 rw[n93]
 refine(Tryz.strconv_Itoa n (by omega) h1 w ht').mono ?_
 rintro e w' ⟨rfl,k,os,rfl⟩
 exact⟨rfl,Lib.below_grow _ w (Nat.le_refl _) k os⟩
theorem L3(s:List UInt8):((⟨s.toArray⟩:ByteArray).data.toList)=s:=by simp
theorem RZ(s:List UInt8):(⟨s.toArray⟩:ByteArray).size=s.length:=by simp[ByteArray.size]
theorem W6:hQ Tryz.prog nm glS aQ ⟨fun f' avs kb h=>if f'=92 then tG avs kb h else none,fun _ _ _ _=>none⟩:=by
 refine UC aBF 0 1 rfl rfl ?_ ?_ ?_
 ·intro s hs v hv w
  rw[n92]
  refine(Tryz.strconv_Atoi_ok ⟨s.toArray⟩ (by rw[RZ];omega) v (by rw[L3];exact hv) w).mono ?_
  rintro e w' ⟨rfl,hw⟩
  refine⟨rfl,?_⟩
  rcases hw with rfl|⟨t,rfl⟩
  ·exact RowKit.Below.refl _ _
  ·exact Lib.bytesWorld_below _ _ _
 ·intro s hs hv1 hv2 w te pe hc
  rw[n92]
  refine(Tryz.strconv_Atoi_bad ⟨s.toArray⟩ (by rw[RZ];omega) (by rw[L3];exact hv1) (by rw[L3];exact hv2) _ w hc (.inr ⟨te,pe,rfl⟩)).mono ?_
  rintro e w' ⟨N,rfl,_,_,hb⟩
  exact⟨_,_,rfl,hb⟩
 ·intro s hs hv w te pe hc
  rw[n92]
  refine(Tryz.strconv_Atoi_range ⟨s.toArray⟩ (by rw[RZ];omega) (by rw[L3];exact hv) _ w hc (.inr ⟨te,pe,rfl⟩)).mono ?_
  rintro e w' ⟨N,rfl,_,_,hb⟩
  rw[L3]
  exact⟨_,_,rfl,hb⟩
theorem VN:hQ Tryz.prog nm glS aQ ⟨fun f' avs kb h=>if f'=75 then vU avs kb h else none,fun _ _ _ _=>none⟩:=by
 refine R3 aBH ?_ ?_
 ·intro blk off cap zs w hH hb hz
  rw[n75]
  refine(Tryz.slices_Sort_int blk off cap zs w hH hb (by omega)).mono ?_
  rintro e w' ⟨rfl,n,os,rfl⟩
  exact⟨rfl,n,os,by rw[L7]⟩
 ·intro p cap w
  rw[n75]
  exact Tryz.slices_Sort_int_none p cap w
theorem WG:hQ Tryz.prog nm glS aQ ⟨fun f' avs kb h=>if f'=76 then vV avs kb h else none,fun _ _ _ _=>none⟩:=by
 refine TZ aBG ?_ ?_
 ·intro blk off cap zs w hH hz hc
  rw[n76]
  refine(Tryz.slices_Compact_int blk off cap zs w hH (by omega) hc).mono ?_
  rintro e w' ⟨rfl,q,rfl⟩
  rw[H9]
  exact⟨rfl,q,rfl⟩
 ·intro p cap w
  rw[n76]
  exact Tryz.slices_Compact_int_empty p cap w
theorem TE:nm.f 636=50:=by kernel_rfl
theorem aBD:nm.f 637=51:=by kernel_rfl
theorem V4:AR Tryz.prog (nm.f 636):=by rw[TE];exact⟨Tryz.f50,Tryz.func50,by kernel_rfl,of_decide_eq_true (by kernel_rfl)⟩
theorem R2:hQ Tryz.prog nm glS aQ ⟨fun f' avs kb h=>if f'=636 then rY avs kb h else none,fun _ _ _ _=>none⟩:=by
 refine P0 V4 ?_ ?_
 ·intro blk off cap l w h1 h2 h3 h4
  rw[TE,aBD]
  exact GK blk off cap l w h1 h2 h3 h4
 ·intro p cap fv w
  rw[TE]
  exact AnyF.slices_SortFunc_none Tryz.sortPl p cap fv w
theorem exS:∀f g,exB f=some g->hQ Tryz.prog nm glS aQ ⟨fun f' avs kb h=>if f'=f then g avs kb h else none,fun _ _ _ _=>none⟩:=by
 intro f g h
 unfold exB at h
 cases h1:f.beq 92 with
 |true=>rw[h1]at h;cases h;obtain rfl:=Nat.eq_of_beq_eq_true h1;exact W6
 |false=>
  cases h2:f.beq 93 with
  |true=>rw[h1,h2]at h;cases h;obtain rfl:=Nat.eq_of_beq_eq_true h2;exact V0
  |false=>
   cases h3:f.beq 75 with
   |true=>rw[h1,h2,h3]at h;cases h;obtain rfl:=Nat.eq_of_beq_eq_true h3;exact VN
   |false=>
    cases h4:f.beq 76 with
    |true=>rw[h1,h2,h3,h4]at h;cases h;obtain rfl:=Nat.eq_of_beq_eq_true h4;exact WG
    |false=>
     cases h5:f.beq 636 with
     |true=>rw[h1,h2,h3,h4,h5]at h;cases h;obtain rfl:=Nat.eq_of_beq_eq_true h5;exact R2
     |false=>rw[h1,h2,h3,h4,h5]at h;cases h
theorem fitS:PV Tryz.prog nm aQ pgS:=fitP_of fits exS (fun _ _ _ _=>Iff.rfl)
end Go.Proofs
end
