import Derived.Test.YtlalckpnpidccaaGreatDoorDAX
import Derived.Test.YtlalckpnpidccaaGreatDoorDAT
import Derived.Test.YtlalckpnpidccaaGreatDoorDAS
import Derived.Test.YtlalckpnpidccaaGreatDoorDAI
import Derived.Test.YtlalckpnpidccaaGreatDoorDAM
set_option linter.all false
namespace Go.Tev
section
section
variable{pg:Pg}
end
end
section
section
variable{pg:Pg}
end
end
section
section
variable{pg:Pg}
end
end
section
theorem eA:∀a b:List UInt8,(Op.bytesLess a b||decide (a=b)) = !Op.bytesLess b a
 |[],[]=>rfl
 |[],_::_=>rfl
 |_::_,[]=>rfl
 |x::r,y::s=>by
  have ih:=eA r s;simp only[Op.bytesLess];by_cases h:x=y;subst h;simp only[List.cons.injEq,true_and,beq_self_eq_true,Bool.true_and];have:decide (x<x)=false:=by simp
  rw[this];simpa using ih;have h1:(x==y)=false:=by simpa using h
  have h2:(y==x)=false:=by simpa using λe=>h e.symm
  have h3:decide (x::r=y::s)=false:=by simp[h]
  rw[h1,h2,h3];simp only[Bool.false_and,Bool.or_false];have hne:x.toNat≠y.toNat:=λe=>h (UInt8.toNat_inj.1 e);by_cases hl:x<y;have:¬y<x:=by rw[UInt8.lt_iff_toNat_lt]at *;omega
  simp[hl,this];have:y<x:=by rw[UInt8.lt_iff_toNat_lt]at *;omega
  simp[hl,this]
section
variable{pg:Pg}
end
end
section
structure aD where
 c:Int
 vs:Sl Str
def aD.av(x:aD):AV:=.agg [.int .i64 x.c,x.vs.av Str.av]
def aD.bs(x:aD):List (List UInt8):=x.vs.es.map Str.bs
def lB:List Str->List Str->Int
 |[],s => -(s.length:Int)
 |r,[]=>(r.length:Int)
 |a::r,b::s=>if Op.bytesLess a.bs b.bs then -1 else if Op.bytesLess b.bs a.bs then 1 else lB r s
def fN:List Str->List Str->Int
 |[],[]=>0
 |[],_::_ => -1
 |_::_,[]=>1
 |a::r,b::s=>if Op.bytesLess a.bs b.bs then -1 else if Op.bytesLess b.bs a.bs then 1 else fN r s
theorem CS:∀a b:List Str,(0<=lB a b)↔(0<=fN a b)
 |[],[]=>by simp[lB,fN]
 |[],b::s=>by simp[lB,fN]
 |a::r,[]=>by simp[lB,fN];omega
 |a::r,b::s=>by simp only[lB,fN];split;simp;split;simp;exact CS r s
def after(o:Option Str)(x:Str):Bool:=match o with|none=>true|some q => !Op.bytesLess x.bs q.bs
def mI(o:Option aD)(x:aD):Bool:=match o with|none=>true|some q=>decide (fN q.vs.es x.vs.es<0)
def iK:List Str->List Str->Bool
 |_,[]=>true
 |p,x::r=>after p.getLast? x&&iK (p++[x]) r
theorem qI(x:Str):∀(l p:List Str),iK p (l++[x])=(iK p l&&after (p++l).getLast? x)
 |[],p=>by simp[iK]
 |y::l,p=>by have ih:=qI x l (p++[y]);simp only[List.cons_append,iK,ih,Bool.and_assoc,List.append_assoc,List.nil_append]
def jJ(n:Int):Bool := !decide (n=0) && !decide (n < -1099511627776) && !decide (1099511627776<n)
def hU:List aD->List aD->Bool
 |_,[]=>true
 |p,x::r=>jJ x.c && !decide (8<(x.vs.es.length:Int))&&iK [] x.vs.es&&x.vs.es.all (λs=>cJ s.bs)&&mI p.getLast? x&&hU (p++[x]) r
def aN(p:List aD):Bool:=hU [] p&&decide ((p.length:Int)<=60)
section
variable{pg:Pg}
theorem c528(hf:pg.fs 528=some lM)(s:List UInt8):Ret pg 528 [.str s] (.bool false):=by refine Ret.ofX hf ?_;unfold lM;simp only[go_sem,seval]
theorem c500(hf:pg.fs 500=some rS)(h528:pg.fs 528=some lM)(a b:List UInt8):Ret pg 500 [.str a,.str b] (.bool (Op.bytesLess a b)):=by refine Ret.ofX hf ?_;unfold rS;refine Wk ?_;refine aP (c528 h528 a) ?_;simp only[go_sem,seval]
theorem c711(hf:pg.fs 711=some rR)(h528:pg.fs 528=some lM)(a b:List UInt8):Ret pg 711 [.str a,.str b] (.int .i64 (if Op.bytesLess a b then -1 else if Op.bytesLess b a then 1 else 0)):=by
 have ht:(!(Op.bytesLess a b||decide (a=b)))=Op.bytesLess b a:=by rw[eA];simp
 refine Ret.ofX hf ?_;unfold rR;refine Wk ?_;refine aP (c528 h528 a) (Wk ?_);refine aP (c528 h528 b) (Wk ?_);cases h1:Op.bytesLess a b;rw[h1,Bool.false_or]at ht;simp only[h1,ht,go_sem,seval];cases h2:Op.bytesLess b a<;>simp only[go_sem,seval];simp only[go_sem,seval]
theorem c703(hf:pg.fs 703=some uL)(h711:pg.fs 711=some rR)(h528:pg.fs 528=some lM)(a b:Sl Str):Ret pg 703 [a.av Str.av,b.av Str.av] (.int .i64 (fN a.es b.es)):=by
 have hab:=a.ok;have hbb:=b.ok;refine Ret.ofX hf ?_;unfold uL;simp only[Sl.av,go_sem,seval];refine bD a.es (λd r env hp=>env=xD (.sl a.nl (a.es.map Str.av) a.cl) (.sl b.nl (b.es.map Str.av) b.cl) (.sl a.nl (a.es.map Str.av) a.cl) (.int .i64 a.es.length) (.int .i64 d.length)/\d.length<=b.es.length/\fN a.es b.es=fN r (b.es.drop d.length)) ?_ ?_ ?_;exact⟨rfl,Nat.zero_le _,by simp⟩;rintro env hp ⟨rfl,hl,hq⟩;unfold xC xD;simp only[Int.lt_irrefl,aE,go_sem,seval];cases h1:decide ((a.es.length:Int)<(b.es.length:Int));simp only[h1,go_sem,seval];have h2:b.es.drop a.es.length=[]:=List.drop_eq_nil_of_le (by have:=cF h1;omega);rw[hq,h2];rfl;simp only[h1,go_sem,seval];have h2:a.es.length<b.es.length:=by have:=bU h1;omega
 rw[hq,j5 h2];rfl;rintro d x r env hp hes ⟨rfl,hl,hq⟩;rw[hes]at hab;have hx:a.es[d.length]?=some x:=by rw[hes];simp
 have hlt:d.length<a.es.length:=by rw[hes];simp
 have h0:decide ((d.length:Int)<(a.es.length:Int))=true:=by simp;omega
 have hw:wr .i64 ((d.length:Int)+1)=((d++[x]).length:Int):=by rw[dZ (by omega) (by simp only[bW,List.length_cons,big]at *;omega)];simp
 have hml:(a.es.map Str.av)[d.length]?=some x.av:=by rw[List.getElem?_map,hx];rfl
 unfold xC xD;have hp0:(0:Int)<=(d.length:Int):=by omega
 cases h1:decide ((b.es.length:Int)<=(d.length:Int))
 case true=>simp only[h0,h1,hml,hp0,Int.toNat_natCast,Str.av,aE,go_sem,seval];have h2:b.es.drop d.length=[]:=List.drop_eq_nil_of_le (by have:=bU h1;omega);rw[hq,h2];rfl
 case false=>
  have h2:d.length<b.es.length:=by have:=cF h1;omega
  have hyl:(b.es.map Str.av)[d.length]?=some (b.es[d.length]).av:=by rw[List.getElem?_map,aY h2];rfl
  rw[j5 h2]at hq;generalize b.es[d.length]=y at hq hyl;simp only[h0,h1,hml,hyl,hp0,Int.toNat_natCast,Str.av,aE,go_sem,seval];refine aP (c711 h711 h528 x.bs y.bs) ?_;simp only[fN]at hq;cases h3:Op.bytesLess x.bs y.bs;cases h4:Op.bytesLess y.bs x.bs;rw[h3,h4]at hq;simp only[hw,go_sem,seval];refine⟨rfl,by simp;omega,?_⟩;simpa using hq;rw[h3,h4]at hq;refine Wk ?_;rw[hq];rfl;rw[h3]at hq;refine Wk ?_;rw[hq];rfl
theorem c700(hf:pg.fs 700=some uO)(a b:Sl Str):Ret pg 700 [a.av Str.av,b.av Str.av] (.int .i64 (lB a.es b.es)):=by
 have hab:=a.ok;have hbb:=b.ok;have key:∀(d l m:List Str),l=d++m->True:=λ_ _ _ _=>trivial;refine Ret.ofX hf ?_;unfold uO;simp only[Sl.av,go_sem,seval];refine bD a.es (λd r env hp=>env=xG (.sl a.nl (a.es.map Str.av) a.cl) (.sl b.nl (b.es.map Str.av) b.cl) (.int .i64 d.length)/\d.length<=b.es.length/\lB a.es b.es=lB r (b.es.drop d.length)) ?_ ?_ ?_;exact⟨rfl,Nat.zero_le _,by simp⟩;rintro env hp ⟨rfl,hl,hq⟩;unfold xF xG;have hw:wr .i64 ((a.es.length:Int)-(b.es.length:Int))=(a.es.length:Int)-(b.es.length:Int):=dZ (by simp only[big]at *;omega) (by simp only[big]at *;omega);simp only[Int.lt_irrefl,aE,hw,go_sem,seval];rw[hq,lB.eq_1];simp only[List.length_drop];omega
 ·rintro d x r env hp hes ⟨rfl,hl,hq⟩;rw[hes]at hab;have hx:a.es[d.length]?=some x:=by rw[hes];simp
  have hlen:a.es.length=d.length+(r.length+1):=by rw[hes];simp
  have hlt:d.length<a.es.length:=by omega
  have h0:decide ((d.length:Int)<(a.es.length:Int))=true:=by simp;omega
  have hw:wr .i64 ((d.length:Int)+1)=((d++[x]).length:Int):=by rw[dZ (by omega) (by simp only[bW,List.length_cons,big]at *;omega)];simp
  have hw2:wr .i64 ((a.es.length:Int)-(b.es.length:Int))=(a.es.length:Int)-(b.es.length:Int):=by rw[hes];exact dZ (by simp only[bW,List.length_cons,big]at *;omega) (by simp only[bW,List.length_cons,big]at *;omega)
  have hml:(a.es.map Str.av)[d.length]?=some x.av:=by rw[List.getElem?_map,hx];rfl
  unfold xF xG;have hp0:(0:Int)<=(d.length:Int):=by omega
  cases h1:decide ((d.length:Int)<(b.es.length:Int))
  case false=>
   simp only[h0,h1,aE,hw2,go_sem,seval];have h3:d.length=b.es.length:=by have:=cF h1;omega
   have h2:b.es.drop d.length=[]:=List.drop_eq_nil_of_le (by omega);rw[hq,h2,lB];simp only[List.length_cons];omega;intro h;cases h
  case true=>
   have h2:d.length<b.es.length:=by have:=bU h1;omega
   have hyl:(b.es.map Str.av)[d.length]?=some (b.es[d.length]).av:=by rw[List.getElem?_map,aY h2];rfl
   rw[j5 h2]at hq;generalize b.es[d.length]=y at hq hyl;have ht:(!(Op.bytesLess x.bs y.bs||decide (x.bs=y.bs)))=Op.bytesLess y.bs x.bs:=by rw[eA];simp
   simp only[lB]at hq;cases h3:Op.bytesLess x.bs y.bs
   ·rw[h3,Bool.false_or]at ht;simp only[h0,h1,hml,hyl,hp0,Int.toNat_natCast,Str.av,aE,h3,ht,go_sem,seval];refine dJ ?_;cases h4:Op.bytesLess y.bs x.bs
    ·rw[h3,h4]at hq
     repeat (first|simp only[hml,hyl,hp0,Int.toNat_natCast,Str.av,h3,ht,h4,hw,go_sem,seval]|refine dJ ?_)
     refine⟨by simp;omega,?_⟩;simpa using hq
    ·rw[h3,h4]at hq
     repeat (first|simp only[hml,hyl,hp0,Int.toNat_natCast,Str.av,h3,ht,h4,hw,go_sem,seval]|refine dJ ?_)
     rw[hq];rfl
   rw[h3]at hq;simp only[h0,h1,hml,hyl,hp0,Int.toNat_natCast,Str.av,aE,h3,go_sem,seval];refine dJ ?_;rw[hq];rfl
theorem c701(hf:pg.fs 701=some uN)(h500:pg.fs 500=some rS)(h528:pg.fs 528=some lM)(a:Sl Str):Ret pg 701 [a.av Str.av] (.bool (iK [] a.es)):=by
 have hab:=a.ok;have hwl:wr .i64 ((a.es.length:Int)-1)=(a.es.length:Int)-1:=dZ (by omega) (by simp only[big]at *;omega);refine Ret.ofX hf ?_;unfold uN;simp only[Sl.av,aE,hwl,go_sem,seval];refine oE (λk:Nat=>k) (λk env hp=>env=DD (.sl a.nl (a.es.map Str.av) a.cl) (.int .i64 ((k:Int)-1))/\k<=a.es.length/\iK [] a.es=iK [] (a.es.take k)) a.es.length ⟨rfl,Nat.le_refl _,by rw[List.take_length]⟩ ?_;rintro k env hp ⟨rfl,hk,hq⟩;unfold DC DD;cases h1:decide ((0:Int)<(k:Int)-1)
 case false=>
  simp only[h1,go_sem,seval];have hk1:k=0\/k=1:=by have:=cF h1;omega
  rcases hk1 with rfl|rfl;rw[hq];rfl;cases hs:a.es with
  |nil=>rfl
  |cons x r=>rw[<-hs,hq,hs];rfl
 case true=>
  obtain⟨i,rfl⟩:∃i,k=i+2:=⟨k-2,by have:=bU h1;omega⟩
  have e1:((i+2:Nat):Int)-1=((i+1:Nat):Int):=by omega
  have hw:wr .i64 (((i+1:Nat):Int)-1)=(i:Int):=by rw[dZ (by omega) (by simp only[big]at *;omega)];omega
  have hw2:wr .i64 (((i+1:Nat):Int)-1)=((i+1:Nat):Int)-1:=by rw[hw];omega
  have hx:a.es[i+1]?=some a.es[i+1]:=aY (by omega);have hy:a.es[i]?=some a.es[i]:=aY (by omega);have tk:a.es.take (i+2)=a.es.take (i+1)++[a.es[i+1]]:=by rw[List.take_add_one,hx];rfl
  have tk2:(a.es.take (i+1)).getLast?=some a.es[i]:=by rw[List.take_add_one,hy];exact List.getLast?_concat
  rw[tk,qI,List.nil_append,tk2,after]at hq;generalize a.es[i+1]=x at *;generalize a.es[i]=y at *;have hxl:(a.es.map Str.av)[i+1]?=some x.av:=by rw[List.getElem?_map,hx];rfl
  have hyl:(a.es.map Str.av)[i]?=some y.av:=by rw[List.getElem?_map,hy];rfl
  have hp0:(0:Int)<=((i+1:Nat):Int):=by omega
  have hp1:(0:Int)<=(i:Int):=by omega
  rw[e1]at h1 ⊢;simp only[h1,hxl,hp0,hw,hyl,hp1,Int.toNat_natCast,Str.av,go_sem,seval];refine aP (c500 h500 h528 x.bs y.bs) (Wk ?_);refine dJ ?_;cases h3:Op.bytesLess x.bs y.bs
  ·rw[h3]at hq
   repeat (first|simp only[hw,go_sem,seval]|refine dJ ?_)
   refine⟨i+1,by omega,?_,by omega,?_⟩;rw[<-hw2,hw];rfl;simpa using hq
  ·rw[h3]at hq
   repeat (first|simp only[hw,go_sem,seval]|refine dJ ?_)
   rw[hq];simp
end
end
end Go.Tev
