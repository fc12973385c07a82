import Derived.Test.YtmcadllokkmeiaaGreatDoorBAT
import Derived.Test.YtmcadllokkmeiaaGreatDoorBAR
import Derived.Shelf.SlSortCmp.WholeK
import Derived.KernelRfl
import Derived.Shelf.SlSortCmp.NoneTotal
import Derived.Test.YtmcadllokkmeiaaGreatDoorProg
set_option linter.all false
namespace Go.Tev
section
section
variable{pg:Pg}
theorem c114(hf:pg.fs 114=some KI)(c:UInt8):Ret pg 114 [.int .u8 (c.toNat:Int)] (.bool (bU c)):=by
 refine Ret.ofX hf ?_;unfold KI;cases b1:decide (48<=(c.toNat:Int));simp only[b1,go_sem,seval];have:¬ 48<=c.toNat:=by have:=bW b1;omega
 simp[bU,this];simp only[b1,go_sem,seval];have:48<=c.toNat:=by have:=aO b1;omega
 simp only[bU,this,decide_true,cE];rw[eH];omega
theorem c115(hf:pg.fs 115=some KH)(c:UInt8):Ret pg 115 [.int .u8 (c.toNat:Int)] (.bool (iG c)):=by
 refine Ret.ofX hf ?_;unfold KH;cases b1:decide (97<=(c.toNat:Int));simp only[b1,go_sem,seval];have:¬ 97<=c.toNat:=by have:=bW b1;omega
 simp[iG,this];simp only[b1,go_sem,seval];have:97<=c.toNat:=by have:=aO b1;omega
 simp only[iG,this,decide_true,cE];rw[eH];omega
theorem c90(hf:pg.fs 90=some aAG)(n:Int):Ret pg 90 [.int .i64 n] (.bool (pD n)):=by refine Ret.ofX hf ?_;unfold aAG;cases b1:decide (-1000000<=n);simp only[b1,go_sem,seval];simp[pD,b1];simp only[b1,go_sem,seval];simp[pD,b1]
theorem c77(hf:pg.fs 77=some aDy)(h114:pg.fs 114=some KI)(h115:pg.fs 115=some KH)(s:List UInt8)(hb:s.length<=big):Ret pg 77 [.str s] (.bool (iQ s)):=by
 refine Ret.ofX hf ?_;unfold aDy;cases b0:decide ((s.length:Int)=0)
 case true=>have:s=[]:=iR (by have:=aO b0;omega);simp only[b0,go_sem,seval];subst this;rfl
 case false=>
 obtain⟨c,t,hs⟩:∃c t,s=c::t:=by
  cases s with
  |nil=>simp at b0
  |cons c t=>exact⟨c,t,rfl⟩
 have hg0:s[0]?=some c:=by rw[hs];rfl
 have hlt:s.length=t.length+1:=by rw[hs];rfl
 have hnu:iQ s=(decide (s.length<=30)&&(if c=95 then decide (2<=s.length)&&decide (s.length<=10) && !decide (t.head?=some 48)&&t.all bU else iG c&&t.all (λx=>iG x||bU x))):=by rw[hs];rfl
 cases b1:decide (30<(s.length:Int))
 case true=>
  simp only[b0,b1,go_sem,seval];have:¬s.length<=30:=by have:=aO b1;omega
  simp[hnu,this]
 case false=>
 have h30:s.length<=30:=by have:=bW b1;omega
 have hd30:decide (s.length<=30)=true:=decide_eq_true h30;rw[hnu,hd30,cE];clear hnu;simp only[b0,b1,hg0,go_sem,seval];have hi0:∀(d:List UInt8)(x:UInt8)(r:List UInt8),s=d++x::r->s[d.length]?=some x/\decide ((d.length:Int)<(s.length:Int))=true/\wr .i64 ((d.length:Int)+1)=((d++[x]).length:Int):=by intro d x r he;refine⟨by rw[he];simp,by rw[he];simp;omega,?_⟩;exact aZ (r:=r) (by rw[<-he];exact hb)
 cases b2:decide ((c.toNat:Int)=95)
 case true=>
  have hc:c=95:=by have h:=aO b2;exact UInt8.toNat_inj.1 (by simpa using (show c.toNat=95 by omega))
  rw[if_pos hc];cases b3:decide ((s.length:Int)<2)
  case true=>
   have:¬ 2<=s.length:=by have:=aO b3;omega
   simp only[b3,go_sem,seval];simp[this]
  case false=>
  have h2:2<=s.length:=by have:=bW b3;omega
  cases b4:decide (10<(s.length:Int))
  case true=>
   have:¬s.length<=10:=by have:=aO b4;omega
   simp only[b3,b4,go_sem,seval];simp[this]
  case false=>
  have h10:s.length<=10:=by have:=bW b4;omega
  obtain⟨d,u,ht⟩:∃d u,t=d::u:=by
   cases t with
   |nil=>simp at hlt;omega
   |cons d u=>exact⟨d,u,rfl⟩
  have hg1:s[1]?=some d:=by rw[hs,ht];rfl
  have hhd:t.head?=some d:=by rw[ht];rfl
  cases b5:decide ((d.toNat:Int)=48)
  case true=>
   have hd:d=48:=by have h:=aO b5;exact UInt8.toNat_inj.1 (by simpa using (show d.toNat=48 by omega))
   simp only[b3,b4,hg1,b5,go_sem,seval];simp[hhd,hd]
  case false=>
  have hd:¬d=48:=by intro h;subst h;exact absurd rfl (bW b5)
  have hres:(decide (2<=s.length)&&decide (s.length<=10) && !decide (t.head?=some 48)&&t.all bU)=t.all bU:=by simp[h2,h10,hhd,hd]
  rw[hres];simp only[b3,b4,hg1,b5,go_sem,seval];refine aJ t (λe r env hp=>env=VJ (.str s) (.int .i64 ((e.length+1:Nat):Int))/\t.all bU=r.all bU) ?_ ?_ ?_;exact⟨rfl,rfl⟩;rintro env hp ⟨rfl,hI⟩;have hex:decide (((t.length+1:Nat):Int)<(s.length:Int))=false:=by simp;omega
  simp only[VH,VJ,hex,go_sem,seval];rw[hI];rfl;rintro e x r env hp he ⟨rfl,hI⟩;have hse:s=(c::e)++x::r:=by rw[hs,he];rfl
  obtain⟨k1,k2,k3⟩:=hi0 _ _ _ hse;have k0:(c::e).length=e.length+1:=rfl;have k4:((c::e)++[x]).length=(e++[x]).length+1:=by simp
  rw[k0]at k1 k2 k3;rw[k4]at k3;simp only[VH,VJ,k1,k2,go_sem,seval];refine bZ (c114 h114 x) rfl rfl ?_;cases hx:bU x;simp only[hx,go_sem,seval];rw[hI];simp[hx];simp only[hx,k3,go_sem,seval];refine⟨rfl,?_⟩;rw[hI];simp[hx]
 case false=>
  have hc:¬c=95:=by intro h;subst h;exact absurd rfl (bW b2)
  rw[if_neg hc];simp only[b2,go_sem,seval];refine aJ s (λe r env hp=>env=VI (.str s) (.int .i64 e.length)/\(e=[]\/(iG c&&t.all (λx=>iG x||bU x))=r.all (λx=>iG x||bU x))) ?_ ?_ ?_;exact⟨rfl,.inl rfl⟩;rintro env hp ⟨rfl,hI⟩;have hex:decide ((s.length:Int)<(s.length:Int))=false:=by simp
  simp only[VG,VI,hex,go_sem,seval];rcases hI with h|h;exact absurd h (by rw[hs];simp);rw[h];rfl
  ·rintro e x r env hp he ⟨rfl,hI⟩;obtain⟨k1,k2,k3⟩:=hi0 _ _ _ he
   have hI2:(iG c&&t.all (λx=>iG x||bU x))=((if e=[] then iG x else (iG x||bU x))&&r.all (λx=>iG x||bU x)):=by
    rcases hI with h|h;subst h;rw[hs]at he;simp only[fW,List.cons.injEq]at he;obtain⟨rfl,rfl⟩:=he;simp;by_cases h0:e=[]
    subst h0;rw[hs]at he;simp only[fW,List.cons.injEq]at he;obtain⟨rfl,rfl⟩:=he;simp;rw[h,if_neg h0];simp
   rw[hI2];clear hI hI2;simp only[VG,VI,k1,k2,go_sem,seval];refine bZ (c115 h115 x) rfl rfl ?_;cases hx:iG x
   case true=>simp only[hx,k3,go_sem,seval];refine⟨rfl,.inr ?_⟩;split<;>simp
   case false=>
   by_cases h0:e=[]
   have h1:decide ((e.length:Int)=0)=true:=by simp[h0]
   simp only[hx,h1,go_sem,seval];simp[h0];have h1:decide ((e.length:Int)=0)=false:=by simp[h0]
   simp only[hx,h1,k1,go_sem,seval];refine bZ (c114 h114 x) rfl rfl ?_;cases hy:bU x;simp only[hx,hy,go_sem,seval];simp[h0];simp only[hx,hy,k3,go_sem,seval];refine⟨rfl,.inr ?_⟩;simp[h0]
theorem c54(hf:pg.fs 54=some aDL)(h77:∀s:Str,Ret pg 77 [.str s.bs] (.bool (iQ s.bs)))(h90:pg.fs 90=some aAG)(l:Lin):Ret pg 54 [l.av] (.bool (fU l)):=by
 refine Ret.ofX hf ?_;unfold aDL;simp only[go_sem,seval];refine aB (c90 h90 _) ?_;simp only[go_sem,seval];cases h9:pD l.c
 case false=>simp only[go_sem,seval];simp[fU,h9]
 cases h12:decide (12<(l.ts.es.length:Int))
 case true=>
  simp only[h12,go_sem,seval];have:¬(l.ts.es.length:Int)<=12:=by have:=aO h12;omega
  simp[fU,this]
 simp only[h12,go_sem,seval];have hlin:fU l=mQ [] l.ts.es:=by
  have:(l.ts.es.length:Int)<=12:=by have:=bW h12;omega
  simp[fU,h9,this]
 refine aJ l.ts.es (λd r env hp=>hp.get 1=some (0,.blk [.int .i64 l.c,.sl l.ts.nl (l.ts.es.map dQ.av) l.ts.cl] 2 true true false) /\
  env=VX (.pt 1 0 0) (.int .i64 d.length)/\fU l=mQ d r) ?_ ?_ ?_
 exact⟨rfl,rfl,hlin⟩;rintro env hp ⟨h1,rfl,hq⟩;simp only[VW,VX,h1,go_sem,seval];rw[hq];rfl;rintro d x r env hp hes ⟨h1,rfl,hq⟩;have hb:=l.ts.ok;have hget:l.ts.es[d.length]?=some x:=by rw[hes];simp
 have e1:decide ((d.length:Int)<(l.ts.es.length:Int))=true:=by rw[hes];simp;omega
 have e2:((d.length:Int)<(l.ts.es.length:Int))=True:=aK (by rw[hes];simp;omega);have hsb:(d++x::r).length<=big:=by rw[<-hes];exact hb
 simp only[mQ]at hq;simp only[VW,VX,h1,hget,e1,e2,go_sem,seval];refine aB (h77 x.v) ?_;simp only[go_sem,seval];cases hn:iQ x.v.bs
 case false=>simp only[go_sem,seval];refine aY ?_;simp[hq,hn]
 cases hc:decide (x.c=0)
 case true=>simp only[hc,go_sem,seval];refine aY ?_;simp[hq,hc]
 simp only[hc,go_sem,seval];refine aB (c90 h90 x.c) ?_;simp only[go_sem,seval];cases hx9:pD x.c
 case false=>simp only[go_sem,seval];refine aY ?_;simp[hq,hx9]
 rcases mO d with hd|⟨d',q,hd⟩
 have e3:decide (0<(d.length:Int))=false:=by simp[hd]
 simp only[hx9,e3,aZ hsb,go_sem,seval];refine And.intro (by kernel_rfl) ⟨h1,rfl,?_⟩;subst hd;simp[hq,hx9,hc,hn];have hd':d=d'++[q]:=by simpa using hd
 have e3:decide (0<(d.length:Int))=true:=by simp[hd']
 have e4:wr .i64 ((d.length:Int)-1)=(d'.length:Int):=by rw[aU (by simp only[hd',dC,List.length_singleton];omega) (by simp only[big,dC]at hsb;omega),hd',dC,List.length_singleton];omega
 have e5:l.ts.es[d'.length]?=some q:=by rw[hes,hd'];simp
 have e6:((d'.length:Int)<(l.ts.es.length:Int))=True:=aK (by rw[hes,hd'];simp;omega);cases hl:Op.bytesLess q.v.bs x.v.bs;simp only[hx9,e3,e4,e5,e6,h1,hl,go_sem,seval];refine aY ?_;simp[hq,hd',hl];simp only[hx9,e3,e4,e5,e6,h1,hl,aZ hsb,go_sem,seval];refine And.intro (by kernel_rfl) ⟨rfl,?_⟩;simp[hq,hx9,hc,hn,hd',hl]
end
end
section
section
variable{pg:Pg}
theorem C1(l:Lin)(r:List Lin)(vars:List Str):d4 (l::r) vars=(fU l&&(l.ts.es.all (λx=>mD vars x.v.bs)&&d4 r vars)):=by simp[d4,Bool.and_assoc]
theorem c80(hf:pg.fs 80=some aDw)(h54:∀l:Lin,Ret pg 54 [l.av] (.bool (fU l)))(nl cl:Bool)(ls:List Lin)(hb:ls.length<=big)(nl' cl':Bool)(vars:List Str)(hb':vars.length<=big) :
  Ret pg 80 [.sl nl (ls.map Lin.av) cl,.sl nl' (vars.map Str.av) cl'] (.bool (d4 ls vars)):=by
 refine Ret.ofX hf ?_;unfold aDw;simp only[go_sem,seval];refine aJ ls (λd r env hp=>env=VE (.sl nl (ls.map Lin.av) cl) (.sl nl' (vars.map Str.av) cl') (.int .i64 d.length)/\d4 ls vars=d4 r vars) ?_ ?_ ?_;exact⟨rfl,rfl⟩;rintro env hp ⟨rfl,hI⟩;simp only[VC,VE,go_sem,seval];rw[hI];rfl;rintro d l r env hp hes ⟨rfl,hI⟩;rw[C1]at hI;have hsb:(d++l::r).length<=big:=by rw[<-hes];exact hb
 have hget:ls[d.length]?=some l:=by rw[hes];simp
 have e1:decide ((d.length:Int)<(ls.length:Int))=true:=by rw[hes];simp;omega
 have e2:((d.length:Int)<(ls.length:Int))=True:=aK (by rw[hes];simp;omega);rw[hI];clear hI;simp only[VC,VE,hget,e1,e2,go_sem,seval];refine aB (h54 l) ?_;simp only[go_sem,seval];cases hl:fU l
 case false=>simp only[go_sem,seval]
 simp only[go_sem,seval];have hlb:=l.ts.ok;refine aJ l.ts.es (λd2 r2 env hp=>env=VF (.sl nl (ls.map Lin.av) cl) (.sl nl' (vars.map Str.av) cl') (.int .i64 d.length) (.int .i64 d2.length)/\l.ts.es.all (λx=>mD vars x.v.bs)=r2.all (λx=>mD vars x.v.bs)) ?_ ?_ ?_;exact⟨rfl,rfl⟩;rintro env hp ⟨rfl,hI⟩;have f1:decide ((l.ts.es.length:Int)<(l.ts.es.length:Int))=false:=by simp
 simp only[VD,VF,hget,e2,f1,aZ hsb,go_sem,seval];refine⟨rfl,?_⟩;rw[hI];simp;rintro d2 x r2 env hp he2 ⟨rfl,hI⟩;have hsb2:(d2++x::r2).length<=big:=by rw[<-he2];exact hlb
 have hget2:l.ts.es[d2.length]?=some x:=by rw[he2];simp
 have g1:decide ((d2.length:Int)<(l.ts.es.length:Int))=true:=by rw[he2];simp;omega
 have g2:((d2.length:Int)<(l.ts.es.length:Int))=True:=aK (by rw[he2];simp;omega);rw[hI];clear hI;simp only[VD,VF,hget,e2,g1,go_sem,seval];refine aJ vars (λd3 r3 env hp=>env=LY (.sl nl (ls.map Lin.av) cl) (.sl nl' (vars.map Str.av) cl') (.int .i64 d.length) (.int .i64 d2.length) (.bool (d3.any λs=>decide (x.v.bs=s.bs))) (.int .i64 d3.length)) ?_ ?_ ?_;rfl;rintro env hp rfl;simp only[LX,LY,go_sem,seval];have hh:(vars.any λs=>decide (x.v.bs=s.bs))=mD vars x.v.bs:=rfl;rw[hh];cases hv:mD vars x.v.bs
 case false=>simp only[go_sem,seval]
 case true=>simp only[aZ hsb2,go_sem,seval];rfl
 rintro d3 y r3 env hp he3 rfl;have hsb3:(d3++y::r3).length<=big:=by rw[<-he3];exact hb'
 have hget3:vars[d3.length]?=some y:=by rw[he3];simp
 have k1:decide ((d3.length:Int)<(vars.length:Int))=true:=by rw[he3];simp;omega
 have k2:((d3.length:Int)<(vars.length:Int))=True:=aK (by rw[he3];simp;omega);have hany:((d3++[y]).any λs=>decide (x.v.bs=s.bs))=((d3.any λs=>decide (x.v.bs=s.bs))||decide (x.v.bs=y.bs)):=by simp
 rw[hany];cases hA:(d3.any λs=>decide (x.v.bs=s.bs))
 case true=>simp only[LX,LY,k1,k2,hget3,aZ hsb3,go_sem,seval];exact⟨by kernel_rfl,rfl⟩
 case false=>
  have hsym:decide (y.bs=x.v.bs)=decide (x.v.bs=y.bs):=by rw[eH];exact eq_comm
  simp only[LX,LY,k1,k2,hget3,hget,hget2,e2,g2,hsym,aZ hsb3,go_sem,seval];exact⟨by kernel_rfl,rfl⟩
theorem c160(hf:pg.fs 160=some KC)(s:List UInt8)(hb:s.length<=big):Ret pg 160 [.str s] (.bool (iH s)):=by
 refine Ret.ofX hf ?_;unfold KC;cases b0:decide ((s.length:Int)=0)
 case true=>
  have:s=[]:=iR (by have:=aO b0;omega);have e1:decide (1<((0:Nat):Int))=false:=by decide
  simp only[go_sem,seval];refine aJ ([]:List UInt8) (λe r env hp=>env=pS (.str s) (.int .i64 1)) ?_ ?_ ?_;rfl;rintro env hp rfl;subst this;simp only[rR,pS,go_sem,seval];rfl;rintro e x r env hp he _;simp at he
 case false=>
 obtain⟨c,t,hs⟩:∃c t,s=c::t:=by
  cases s with
  |nil=>simp at b0
  |cons c t=>exact⟨c,t,rfl⟩
 have hg0:s[0]?=some c:=by rw[hs];rfl
 have hlt:s.length=t.length+1:=by rw[hs];rfl
 have hev:iH s=(decide (s.length<=30)&&(decide (65<=c.toNat)&&decide (c.toNat<=90))&&t.all bU):=by rw[hs];rfl
 simp only[go_sem,seval];refine aJ t (λe r env hp=>env=pS (.str s) (.int .i64 ((e.length+1:Nat):Int))/\t.all bU=r.all bU) ?_ ?_ ?_;exact⟨rfl,rfl⟩
 ·rintro env hp ⟨rfl,hI⟩;have hI':t.all bU=true:=by rw[hI];rfl
  rw[hev,hI',fF];have hex:decide (((t.length+1:Nat):Int)<(s.length:Int))=false:=by simp;omega
  have f1:decide (1<=(s.length:Int))=true:=by simp;omega
  cases b1:decide ((s.length:Int)<=30)
  case false=>
   have:¬s.length<=30:=by have:=bW b1;omega
   simp only[rR,pS,hex,f1,b1,go_sem,seval];simp[this]
  case true=>
  have h30:s.length<=30:=by have:=aO b1;omega
  cases b2:decide (65<=(c.toNat:Int))
  case false=>
   have:¬ 65<=c.toNat:=by have:=bW b2;omega
   simp only[rR,pS,hex,f1,b1,hg0,b2,go_sem,seval];simp[this]
  case true=>
  have h65:65<=c.toNat:=by have:=aO b2;omega
  have hc:decide ((c.toNat:Int)<=90)=decide (c.toNat<=90):=by rw[eH];omega
  simp only[rR,pS,hex,f1,b1,hg0,b2,hc,go_sem,seval];simp[h30,h65]
 ·rintro e x r env hp he ⟨rfl,hI⟩;have hse:s=(c::e)++x::r:=by rw[hs,he];rfl
  have k1:s[e.length+1]?=some x:=by rw[hse];simp
  have k2:decide (((e.length+1:Nat):Int)<(s.length:Int))=true:=by rw[hse];simp;omega
  have k3:wr .i64 (((e.length+1:Nat):Int)+1)=(((e++[x]).length+1:Nat):Int):=by simp only[big]at hb;rw[aU (by omega) (by rw[hse]at hb;simp at hb;omega)];simp
  cases b1:decide ((x.toNat:Int)<48)
  case true=>
   have hx:bU x=false:=by
    have:¬ 48<=x.toNat:=by have:=aO b1;omega
    simp[bU,this]
   simp only[rR,pS,k1,k2,b1,go_sem,seval];rw[hev,hI];simp[hx]
  case false=>
  cases b2:decide (57<(x.toNat:Int))
  case true=>
   have hx:bU x=false:=by
    have:¬x.toNat<=57:=by have:=aO b2;omega
    simp[bU,this]
   simp only[rR,pS,k1,k2,b1,b2,go_sem,seval];rw[hev,hI];simp[hx]
  case false=>
  have hx:bU x=true:=by have h1:=bW b1;have h2:=bW b2;simp only[bU,aF,aR];omega
  simp only[rR,pS,k1,k2,b1,b2,k3,go_sem,seval];refine⟨rfl,?_⟩;rw[hI];simp[hx]
theorem c116(hf:pg.fs 116=some SA)(h160:pg.fs 160=some KC)(s:Str):Ret pg 116 [.str s.bs] (.bool (decide (s.bs=[105,110,116])||decide (s.bs=[98,111,111,108])||iH s.bs)):=by
 refine Ret.ofX hf ?_;unfold SA;cases b1:decide (s.bs=[105,110,116])
 case true=>simp only[b1,go_sem,seval]
 case false=>
 cases b2:decide (s.bs=[98,111,111,108])
 case true=>simp only[b1,b2,go_sem,seval]
 case false=>
 simp only[b1,b2,go_sem,seval];refine aB (c160 h160 s.bs s.ok) ?_;simp only[go_sem,seval]
theorem c117(hf:pg.fs 117=some R9)(h54:∀l:Lin,Ret pg 54 [l.av] (.bool (fU l)))(h77:∀s:Str,Ret pg 77 [.str s.bs] (.bool (iQ s.bs)))(sh:cZ):Ret pg 117 [sh.av] (.bool (oK sh)):=by
 refine Ret.ofX hf ?_;unfold R9;have hdb:=sh.aSi.ok;simp only[go_sem,seval]
 refine aJ sh.aSi.es (λd r env hp=>hp.get 1=some (0,.blk [.str sh.row.bs,.sl sh.aSi.nl (sh.aSi.es.map Lin.av) sh.aSi.cl] 2 true true false) /\
  env=A4 (.pt 1 0 0) (.int .i64 d.length)/\sh.aSi.es.all fU=r.all fU) ?_ ?_ ?_
 exact⟨rfl,rfl,rfl⟩
 ·rintro env hp ⟨h1,rfl,hq⟩;have hq':sh.aSi.es.all fU=true:=by rw[hq];rfl
  have f1:decide ((sh.aSi.es.length:Int)<(sh.aSi.es.length:Int))=false:=by simp
  have hso:oK sh=((decide (sh.row.bs=[])||iQ sh.row.bs)&&decide ((sh.aSi.es.length:Int)<=6)):=by simp[oK,hq']
  rw[hso];cases b1:decide ((sh.aSi.es.length:Int)<=6)
  case false=>simp only[A3,A4,h1,f1,b1,go_sem,seval]
  case true=>
  cases b2:decide (sh.row.bs=[])
  case true=>simp only[A3,A4,h1,f1,b1,b2,go_sem,seval]
  case false=>
  simp only[A3,A4,h1,f1,b1,b2,go_sem,seval];refine aB (h77 sh.row) ?_;simp only[go_sem,seval]
 rintro d x r env hp hes ⟨h1,rfl,hq⟩;have hsb:(d++x::r).length<=big:=by rw[<-hes];exact hdb
 have hget:sh.aSi.es[d.length]?=some x:=by rw[hes];simp
 have e1:decide ((d.length:Int)<(sh.aSi.es.length:Int))=true:=by rw[hes];simp;omega
 have e2:((d.length:Int)<(sh.aSi.es.length:Int))=True:=aK (by rw[hes];simp;omega);simp only[A3,A4,h1,e1,e2,hget,go_sem,seval];refine aB (h54 x) ?_;simp only[go_sem,seval];cases hx:fU x
 case false=>simp only[go_sem,seval];simp[oK,hq,hx]
 case true=>simp only[aZ hsb,go_sem,seval];refine⟨h1,rfl,?_⟩;rw[hq];simp[hx]
theorem c79(hf:pg.fs 79=some aDx)(h116:∀s:Str,Ret pg 116 [.str s.bs] (.bool (decide (s.bs=[105,110,116])||decide (s.bs=[98,111,111,108])||iH s.bs)))(h117:∀sh:cZ,Ret pg 117 [sh.av] (.bool (oK sh)))(t:Typ):Ret pg 79 [t.av] (.bool (uX t)):=by
 refine Ret.ofX hf ?_;unfold aDx;simp only[go_sem,seval];refine aB (h116 t.aSl) ?_;cases b1:(decide (t.aSl.bs=[105,110,116])||decide (t.aSl.bs=[98,111,111,108])||iH t.aSl.bs)
 case false=>simp only[b1,go_sem,seval];simp[uX,b1]
 case true=>simp only[b1,go_sem,seval];have a:=h117 t.aSh;rw[cZ.avc]at a;refine aB (a) ?_;simp only[go_sem,seval];simp[uX,b1]
theorem c78(hf:pg.fs 78=some aAK)(s:List UInt8)(hb:s.length<=big):Ret pg 78 [.str s] (.bool (DX s)):=by
 refine Ret.ofX hf ?_;unfold aAK;cases b0:decide ((s.length:Int)=0)
 case true=>have:s=[]:=iR (by have:=aO b0;omega);simp only[go_sem,seval];refine aJ ([]:List UInt8) (λe r env hp=>env=uL (.str s) (.int .i64 1)) ?_ ?_ ?_;rfl;rintro env hp rfl;subst this;simp only[wQ,uL,go_sem,seval];rfl;rintro e x r env hp he _;simp at he
 case false=>
 obtain⟨c,t,hs⟩:∃c t,s=c::t:=by
  cases s with
  |nil=>simp at b0
  |cons c t=>exact⟨c,t,rfl⟩
 have hg0:s[0]?=some c:=by rw[hs];rfl
 have hlt:s.length=t.length+1:=by rw[hs];rfl
 have hev:DX s=(decide (0<t.length)&&((decide ((c.toNat:Int)=105)||decide ((c.toNat:Int)=106))&&t.all bU)):=by
  rw[hs];cases t with
  |nil=>rfl
  |cons d u=>simp[DX]
 simp only[go_sem,seval];refine aJ t (λe r env hp=>env=uL (.str s) (.int .i64 ((e.length+1:Nat):Int))/\t.all bU=r.all bU) ?_ ?_ ?_;exact⟨rfl,rfl⟩
 ·rintro env hp ⟨rfl,hI⟩;have hI':t.all bU=true:=by rw[hI];rfl
  rw[hev,hI',fF];have hex:decide (((t.length+1:Nat):Int)<(s.length:Int))=false:=by simp;omega
  cases b1:decide (1<(s.length:Int))
  case false=>
   have:¬ 0<t.length:=by have:=bW b1;omega
   have h0:decide (0<t.length)=false:=decide_eq_false this;rw[h0];simp only[wQ,uL,hex,b1,go_sem,seval]
  case true=>
  have:0<t.length:=by have:=aO b1;omega
  have h0:decide (0<t.length)=true:=decide_eq_true this;rw[h0];cases b2:decide ((c.toNat:Int)=105);simp only[wQ,uL,hex,b1,hg0,b2,go_sem,seval];simp only[wQ,uL,hex,b1,hg0,b2,go_sem,seval]
 ·rintro e x r env hp he ⟨rfl,hI⟩;have hse:s=(c::e)++x::r:=by rw[hs,he];rfl
  have k1:s[e.length+1]?=some x:=by rw[hse];simp
  have k2:decide (((e.length+1:Nat):Int)<(s.length:Int))=true:=by rw[hse];simp;omega
  have k3:wr .i64 (((e.length+1:Nat):Int)+1)=(((e++[x]).length+1:Nat):Int):=by simp only[big]at hb;rw[aU (by omega) (by rw[hse]at hb;simp at hb;omega)];simp
  cases b1:decide ((x.toNat:Int)<48)
  case true=>
   have hx:bU x=false:=by
    have:¬ 48<=x.toNat:=by have:=aO b1;omega
    simp[bU,this]
   simp only[wQ,uL,k1,k2,b1,go_sem,seval];rw[hev,hI];simp[hx]
  case false=>
  cases b2:decide (57<(x.toNat:Int))
  case true=>
   have hx:bU x=false:=by
    have:¬x.toNat<=57:=by have:=aO b2;omega
    simp[bU,this]
   simp only[wQ,uL,k1,k2,b1,b2,go_sem,seval];rw[hev,hI];simp[hx]
  case false=>
  have hx:bU x=true:=by have h1:=bW b1;have h2:=bW b2;simp only[bU,aF,aR];omega
  simp only[wQ,uL,k1,k2,b1,b2,k3,go_sem,seval];refine⟨rfl,?_⟩;rw[hI];simp[hx]
end
end
section
section
variable{pg:Pg}
end
end
section
theorem i6{α : Type}{q : α -> α -> Bool}(h:∀x,q x x=true):∀l:List α,eqL q l l=true
 |[]=>by simp[eqL]
 |x::r=>by simp[eqL,h x,i6 h r]
theorem JT{α : Type}{q : α -> α -> Bool}:∀l:List α,(∀x∈l,q x x=true)->eqL q l l=true
 |[],_=>by simp[eqL]
 |x::r,h=>by simp[eqL,h x (by simp),JT r (λy hy=>h y (by simp[hy]))]
theorem QZ(x:dQ):iI x x=true:=by simp[iI]
theorem oD(x:Lin):cN x x=true:=by simp[cN,i6 QZ]
theorem rA(x:aP):hZ x x=true:=by simp[hZ,i6]
theorem vS:∀p:aC,fH p p=true:=
 aC.ind' λp ih=>by rw[sP,nX,JT p.aSj ih,i6 oD,i6 rA];simp
theorem rL{α β : Type}{q : α -> β -> Bool}(l:List α):eqL q l []=decide ((l.length:Int)=0):=by
 cases l with
 |nil=>simp[eqL]
 |cons x r=>simp[eqL];omega
def jJ(α : Type):Sl α:=⟨true,[],true,by simp[big]⟩
def zU(x:aG):aG:=
 ⟨x.kind,x.value,x.space,x.body,if x.kind=2 then x.fn else jJ aP,if x.kind=3 then x.source else 0,if x.kind=3 then x.index else EO,if x.kind=3 then x.check else 0⟩
def mB(a b:aG):Bool:=
 decide (a.kind=b.kind)&&decide (a.value=b.value)&&decide (a.source=b.source)&&decide (a.check=b.check)&&eqL cN a.space.es b.space.es&&fH a.body b.body&&fH a.index b.index&&eqL hZ a.fn.es b.fn.es
theorem P5(x:aG):mB x (zU x)=((if decide (x.kind=3) then true else !qP x)&&(decide (x.kind=2)||decide ((x.fn.es.length:Int)=0))):=by
 simp only[mB,zU,i6 oD,vS,qP];by_cases h3:x.kind=3;have h2:¬x.kind=2:=by omega
 simp[h3,vS,jJ,rL];by_cases h2:x.kind=2;simp[h2,i6 rA];simp[h3,h2,jJ,rL,Bool.and_assoc]
def cU(k:aA)(p:aC)(n:Nat)(th:List Bool):Bool:=
 jQ p (gE k.vars.es n) k.aSe.es.length&&(bX p).all (λv=>bS th v)
def mS(k:aA)(q:aG)(i:Nat):Bool:=
 !decide ((i:Int)=0)&&(match k.aSf.es[((i:Int)-1).toNat]? with|none=>false|some r=>decide (r.kind=1)&&decide (r.value=q.value))
def mT(k:aA)(q:aG)(th:List Bool)(second:Bool):Bool:=
 !(decide (q.value<k.aSg)||decide ((k.aSe.es.length:Int)<=q.value))&&(mB q (zU q) &&
 (match k.aSe.es[q.value.toNat]? with
 |none=>false
 |some t=>
  !nN k.aSe.es q t &&
  (if decide (q.kind=1) then !bS th q.value&&(eqL cN q.space.es t.aSh.aSi.es&&cU k q.body t.aSh.aSi.es.length th)
  else if decide (q.kind=2) then !bS th q.value&&(decide (0<(t.aSh.aSi.es.length:Int))&&(eqL cN q.space.es t.aSh.aSi.es&&(cU k q.body t.aSh.aSi.es.length th&&eO q.fn.es 2)))
  else if decide (q.kind=3) then
   !decide ((t.aSh.aSi.es.length:Int)=0)&&(eqL cN q.space.es t.aSh.aSi.es.dropLast&&(!decide (q.check<0)&&(!decide (q.source<0)&&(!decide ((k.aSe.es.length:Int)<=q.source)&&(bS th q.source &&
   ((bS th q.value==decide (q.source=q.value))&&(!(bS th q.value && !second)&&((match k.aSe.es[q.source.toNat]? with|none=>false|some u=>jH u t) &&
   (cU k q.body (t.aSh.aSi.es.length-1) (th.set q.value.toNat false)&&cU k q.index (t.aSh.aSi.es.length-1) (th.set q.value.toNat false))))))))))
  else false)))
theorem S5{th:List Bool}{v a:Int}(hv:0<=v)(ha:0<=a):bS (th.set v.toNat false) a=(bS th a && !decide (a=v)):=by
 simp only[bS,List.getElem?_set];by_cases h:a=v;subst h;by_cases h2:a.toNat<th.length;simp[h2];simp[h2];have h1:¬v.toNat=a.toNat:=by omega
 simp[h1,h]
theorem aED{l m:List Int}{p q:Int->Bool}(hm:∀a,a∈l↔a∈m)(h:∀a∈l,p a = !q a):l.all p = !m.any q:=by rw[Bool.eq_iff_iff];simp only[eT,eA,List.any_eq_false];constructor;intro g a ha hq;have:=g a ((hm a).2 ha);rw[h a ((hm a).2 ha),hq]at this;cases this;intro g a ha;rw[h a ha];have:=g a ((hm a).1 ha);simpa using this
theorem CX(k:aA)(p:aC)(n:Nat)(th th':List Bool)(nt:Int)(h:∀a,0<=a->bS th' a=(bS th a && !decide (a=nt))):cU k p n th'=gB k th p n nt:=by simp only[cU,gB];cases hp:jQ p (gE k.vars.es n) k.aSe.es.length;rfl;simp only[cE];simp only[jQ,aF]at hp;refine aED (λa=>?_) (λa ha=>?_);rw[kQ,cT,oB,pX];rw[kQ]at ha;obtain⟨h4,h5⟩:=qX _ p _ hp.2 a ha;rw[h a h4];cases bS th a<;>simp
theorem P7(k:aA)(q:aG)(i:Nat):LL k q i=(!decide (q.kind=3) || !decide (q.source=q.value) || !mS k q i):=by
 simp only[LL,mS];cases h1:decide ((i:Int)=0);simp only[Bool.or_false,Bool.not_false,cE];cases h2:k.aSf.es[((i:Int)-1).toNat]? with
 |none=>simp
 |some r=>dsimp only;cases decide (r.kind=1)<;>cases decide (r.value=q.value)<;>simp
 simp
theorem PK(k:aA)(q:aG)(th:List Bool)(i:Nat)(hin:0<=k.aSg):mT k q th (mS k q i)=cO k th q i:=by
 simp only[mT,cO,P5,P7,y9];cases o1:decide (q.value<k.aSg)
 case true=>simp
 cases o2:decide ((k.aSe.es.length:Int)<=q.value)
 case true=>simp
 have hv:0<=q.value:=by simp at o1;omega
 cases ht:k.aSe.es[q.value.toNat]? with
 |none=>simp
 |some t=>
 simp only[Bool.or_false,Bool.not_false,cE,Bool.false_or];cases hb:nN k.aSe.es q t
 case true=>simp
 simp only[Bool.not_false,cE];have key:∀p n,bS th q.value=false->cU k p n th=gB k th p n (-1):=by
  intro p n _;refine CX k p n th th (-1) (λa ha=>?_);have:¬a = -1:=by omega
  simp[this]
 have key3:∀p n,cU k p n (th.set q.value.toNat false)=gB k th p n (if bS th q.value then q.value else -1):=by
  intro p n;refine CX k p n th _ _ (λa ha=>?_);rw[S5 hv ha];cases hto:bS th q.value;by_cases hav:a=q.value;subst hav;simp[hto];have:¬a = -1:=by omega
  simp[hav,this];simp
 by_cases h3:q.kind=3;have h1:¬q.kind=1:=by omega
 have h2:¬q.kind=2:=by omega
 simp only[h1,h2,h3,decide_true,decide_false,aN,aL,cE,Bool.false_or,Bool.not_true,u6,xY,AA,key3,bR];simp only[show ∀n:Nat,((n:Int)=0)=(n=0) from λn=>by simp];have hfn:decide (0<(q.fn.es.length:Int)) = !decide (q.fn.es.length=0):=by by_cases h:q.fn.es.length=0<;>simp[h];omega
 rw[hfn,List.length_dropLast];cases decide (q.fn.es.length=0);simp;simp only[cE,Bool.not_true,Bool.or_false];cases decide (t.aSh.aSi.es.length=0)
 case true=>simp
 cases hc:decide (q.check<0)
 case true=>simp
 cases s1:decide (q.source<0)
 case true=>simp
 cases s2:decide ((k.aSe.es.length:Int)<=q.source)
 case true=>simp
 cases s3:bS th q.source
 case false=>simp
 simp only[Bool.not_false,cE,Bool.or_false,Bool.not_true,Bool.false_or];cases hsv:decide (q.source=q.value);cases hto:bS th q.value;simp only[beq_self_eq_true,cE,d9,Bool.not_false,bR,aL];cases k.aSe.es[q.source.toNat]? with
 |none=>simp
 |some u=>dsimp only;cases jH u t<;>simp
 simp;have hsv':q.source=q.value:=by simpa using hsv
 rw[hsv']at s3 ⊢;simp only[s3,beq_self_eq_true,cE,Bool.not_true,Bool.false_or,aN,ht];cases mS k q i<;>cases jH t t<;>simp;simp only[h3,decide_false,aL,bR,Bool.not_false,Bool.true_or,fF,u6,xY];cases hpl:qP q
 case true=>simp
 have hck:decide (q.check<0)=false:=by simp only[qP,Bool.or_eq_false_iff,Bool.not_eq_false',aR]at hpl;simp[hpl.1.2]
 simp only[hck,Bool.not_false,cE];by_cases h1:q.kind=1;have h2:¬q.kind=2:=by omega
 simp only[h1,h2,decide_true,decide_false,aN,Bool.false_or];cases hto:bS th q.value;rw[key _ _ hto];simp only[bR,aL];cases decide ((q.fn.es.length:Int)=0)<;>simp;simp;by_cases h2:q.kind=2;simp only[h1,h2,decide_true,decide_false,aN,aL,Bool.true_or,bR,cE];cases hto:bS th q.value;rw[key _ _ hto];simp only[bR,aL];cases decide (0<(t.aSh.aSi.es.length:Int))<;>cases eqL cN q.space.es t.aSh.aSi.es<;>cases eO q.fn.es 2<;>simp;simp;simp[h1,h2]
end
section
theorem dJ{α : Type}{es d r:List α}{x : α}(hes:es=d++x::r)(hb:es.length<=big) :
  es[d.length]?=some x/\decide ((d.length:Int)<(es.length:Int))=true/\((d.length:Int)<(es.length:Int))=True/\wr .i64 ((d.length:Int)+1)=((d++[x]).length:Int):=by
 have h:d.length<es.length:=by rw[hes];simp
 refine⟨by rw[hes];simp,by simp;omega,aK (by omega),aZ (r:=r) (by rw[<-hes];exact hb)⟩
theorem bG(n:Nat):decide ((n:Int)<(n:Int))=false:=by simp
theorem I3{α β : Type}{q : α -> β -> Bool}{es d r:List α}{x : α}{es':List β}(hes:es=d++x::r)(hl:es.length=es'.length) :
  ∃y,es'[d.length]?=some y/\decide ((d.length:Int)<(es'.length:Int))=true/\((d.length:Int)<(es'.length:Int))=True/\eqL q (x::r) (es'.drop d.length)=(q x y&&eqL q r (es'.drop (d++[x]).length)):=by
 have h:d.length<es'.length:=by rw[<-hl,hes];simp
 refine⟨es'[d.length],aW h,by simp;omega,aK (by omega),?_⟩;rw[i8 h,eqL];simp
theorem pY{α β : Type}{q : α -> β -> Bool}{es:List α}{es':List β}(hl:es.length=es'.length):eqL q [] (es'.drop es.length)=true:=by rw[hl,List.drop_length];simp[eqL]
theorem B5{α β : Type}{q : α -> β -> Bool}{a:List α}{b:List β}(h:decide ((a.length:Int)=(b.length:Int))=false):eqL q a b=false:=by cases he:eqL q a b;rfl;have:=AG he;simp[this]at h
theorem tF:∀s:List UInt8,Op.bytesLess s s=false
 |[]=>rfl
 |c::r=>by simp only[Op.bytesLess,tF r,gD,Bool.or_false,eJ];exact UInt8.lt_irrefl c
section
variable{pg:Pg}
theorem c194(hf:pg.fs 194=some G7)(nl cl:Bool)(vars:List Str)(hb:vars.length<=big)(s:List UInt8):Ret pg 194 [.sl nl (vars.map Str.av) cl,.str s] (.bool (mD vars s)):=by
 refine Ret.ofX hf ?_;unfold G7;simp only[go_sem,seval];refine aJ vars (λd r env hp=>env=EH (.sl nl (vars.map Str.av) cl) (.str s) (.int .i64 d.length)/\mD vars s=mD r s) ?_ ?_ ?_;exact⟨rfl,rfl⟩;rintro env hp ⟨rfl,hI⟩;simp only[EG,EH,bG,go_sem,seval];rw[hI];rfl;rintro d x r env hp hes ⟨rfl,hI⟩;obtain⟨hget,e1,e2,ew⟩:=dJ hes hb;have hsym:decide (x.bs=s)=decide (s=x.bs):=by rw[eH];exact eq_comm
 cases hx:decide (s=x.bs);simp only[EG,EH,e1,e2,hget,hsym,hx,ew,go_sem,seval];refine⟨rfl,?_⟩;rw[hI];simp[mD,hx];simp only[EG,EH,e1,e2,hget,hsym,hx,go_sem,seval];rw[hI];simp[mD,hx]
theorem c193(hf:pg.fs 193=some RQ)(h54:∀l:Lin,Ret pg 54 [l.av] (.bool (fU l)))(h194:pg.fs 194=some G7)(nl cl:Bool)(ls:List Lin)(hb:ls.length<=big)(nl' cl':Bool)(vars:List Str)(hb':vars.length<=big) :
  Ret pg 193 [.sl nl (ls.map Lin.av) cl,.sl nl' (vars.map Str.av) cl'] (.bool (d4 ls vars)):=by
 refine Ret.ofX hf ?_;unfold RQ;simp only[go_sem,seval];refine aJ ls (λd r env hp=>env=NJ (.sl nl (ls.map Lin.av) cl) (.sl nl' (vars.map Str.av) cl') (.int .i64 d.length)/\d4 ls vars=d4 r vars) ?_ ?_ ?_;exact⟨rfl,rfl⟩;rintro env hp ⟨rfl,hI⟩;simp only[NH,NJ,bG,go_sem,seval];rw[hI];rfl;rintro d l r env hp hes ⟨rfl,hI⟩;rw[C1]at hI;obtain⟨hget,e1,e2,ew⟩:=dJ hes hb;rw[hI];clear hI;simp only[NH,NJ,hget,e1,e2,go_sem,seval];refine aB (h54 l) ?_;simp only[go_sem,seval];cases hl:fU l
 case false=>simp only[go_sem,seval]
 simp only[go_sem,seval];have hlb:=l.ts.ok;refine aJ l.ts.es (λd2 r2 env hp=>env=NK (.sl nl (ls.map Lin.av) cl) (.sl nl' (vars.map Str.av) cl') (.int .i64 d.length) (.int .i64 d2.length)/\l.ts.es.all (λx=>mD vars x.v.bs)=r2.all (λx=>mD vars x.v.bs)) ?_ ?_ ?_;exact⟨rfl,rfl⟩;rintro env hp ⟨rfl,hI⟩;simp only[NI,NK,hget,e2,bG,ew,go_sem,seval];refine⟨rfl,?_⟩;rw[hI];simp;rintro d2 x r2 env hp he2 ⟨rfl,hI⟩;obtain⟨hget2,g1,g2,gw⟩:=dJ he2 hlb;rw[hI];clear hI;simp only[NI,NK,hget,e2,g1,g2,hget2,go_sem,seval];refine aB (c194 h194 nl' cl' vars hb' x.v.bs) ?_;simp only[go_sem,seval];cases hv:mD vars x.v.bs;simp only[hv,go_sem,seval];simp only[hv,gw,go_sem,seval];rfl
theorem aIu(hf:pg.fs 124=some x5)(n:Int):Ret pg 124 [.str [105,110,116],.int .i64 n] (.bool (oN n)):=by
 refine Ret.ofX hf ?_;unfold x5
 repeat' (first|simp only[*,go_sem,seval]|refine bB (λ_=>?_) (λ_=>?_)|refine bD (λ_=>?_) (λ_=>?_)|refine aY ?_)
 all_goals (simp_all [oN])
 all_goals omega
theorem aMn(hf:pg.fs 124=some x5)(n:Int):Ret pg 124 [.str [98,111,111,108],.int .i64 n] (.bool (uG n)):=by
 refine Ret.ofX hf ?_;unfold x5
 repeat' (first|simp only[*,go_sem,seval]|refine bB (λ_=>?_) (λ_=>?_)|refine bD (λ_=>?_) (λ_=>?_)|refine aY ?_)
 all_goals (simp_all [uG])
def aMa(a b:Lin)(r:AV):Prop:=∃c:Int,r = .int .i64 c/\decide (c=0)=cN a b
theorem pP{a b:Lin}(c:Int)(h:decide (c=0)=cN a b):aMa a b (.int .i64 c):=⟨c,rfl,h⟩
theorem X2{α β : Type}{a:List α}{b:List β}{d r:List (α×β)}{p : α×β}(h:a.zip b=d++p::r) :
  a[d.length]?=some p.1/\b[d.length]?=some p.2/\d.length<a.length/\d.length<b.length:=by
 have h1:(a.zip b)[d.length]?=some p:=by rw[h];simp
 rw[List.getElem?_zip_eq_some]at h1;obtain⟨h2,h3⟩:=h1;exact⟨h2,h3,(cJ.1 h2).1,(cJ.1 h3).1⟩
theorem c191(hf:pg.fs 191=some G8)(a b:Lin):bQ pg 191 [a.av,b.av] (aMa a b):=by
 refine bQ.ofX hf ?_;unfold G8;simp only[go_sem,seval];have hab:=a.ts.ok;have hbb:=b.ts.ok
 refine aJ (a.ts.es.zip b.ts.es) (λd r env hp=>hp.get 1=some (0,.blk [.int .i64 a.c,.sl a.ts.nl (a.ts.es.map dQ.av) a.ts.cl] 2 true true false)/\hp.get 5=some (0,.blk [.int .i64 b.c,.sl b.ts.nl (b.ts.es.map dQ.av) b.ts.cl] 2 true true false) /\
  env=nH (.pt 1 0 0) (.pt 5 0 0) (.int .i64 d.length)/\eqL iI a.ts.es b.ts.es=eqL iI (a.ts.es.drop d.length) (b.ts.es.drop d.length)) ?_ ?_ ?_
 exact⟨rfl,rfl,rfl,rfl⟩;rintro env hp ⟨g1,g5,rfl,hI⟩;rw[List.length_zip]at hI ⊢;have hl:cN a b=(decide (a.c=b.c)&&eqL iI (a.ts.es.drop (min a.ts.es.length b.ts.es.length)) (b.ts.es.drop (min a.ts.es.length b.ts.es.length))):=by rw[cN,hI]
 clear hI;generalize hm:min a.ts.es.length b.ts.es.length=m at hl ⊢;rcases Nat.lt_trichotomy a.ts.es.length b.ts.es.length with h|h|h;have hm':m=a.ts.es.length:=by omega
 subst hm';have f1:decide ((a.ts.es.length:Int)<(b.ts.es.length:Int))=true:=by simp;omega
 have hz:cN a b=false:=by
  rw[hl,List.drop_length];have:(b.ts.es.drop a.ts.es.length)≠[]:=by simp[List.drop_eq_nil_iff];omega
  cases hd:b.ts.es.drop a.ts.es.length with
  |nil=>exact absurd hd this
  |cons y s=>simp[eqL]
 simp only[nG,nH,g1,g5,bG,f1,go_sem,seval];refine pP _ ?_;rw[hz];rfl
 ·have hm':m=a.ts.es.length:=by omega
  subst hm';have f0:decide ((b.ts.es.length:Int)<(a.ts.es.length:Int))=false:=by simp;omega
  have f1:decide ((a.ts.es.length:Int)<(b.ts.es.length:Int))=false:=by simp;omega
  have f2:decide ((a.ts.es.length:Int)=(b.ts.es.length:Int))=true:=by simp;omega
  have hz:cN a b=decide (a.c=b.c):=by rw[hl,List.drop_length,h,List.drop_length];simp[eqL]
  cases c1:decide (a.c<b.c)
  case true=>
   simp only[nG,nH,g1,g5,bG,f0,f1,f2,c1,go_sem,seval];refine pP _ ?_;have:¬a.c=b.c:=by have:=aO c1;omega
   rw[hz,decide_eq_false this];rfl
  case false=>
  cases c2:decide (b.c<a.c)
  case true=>
   simp only[nG,nH,g1,g5,bG,f0,f1,f2,c1,c2,go_sem,seval];refine pP _ ?_;have:¬a.c=b.c:=by have:=aO c2;omega
   rw[hz,decide_eq_false this];rfl
  case false=>
   simp only[nG,nH,g1,g5,bG,f0,f1,f2,c1,c2,go_sem,seval];refine pP _ ?_;have:a.c=b.c:=by have:=bW c2;have:=bW c1;omega
   rw[hz,decide_eq_true this];rfl
 have hm':m=b.ts.es.length:=by omega
 subst hm';have f0:decide ((b.ts.es.length:Int)<(a.ts.es.length:Int))=true:=by simp;omega
 have f1:decide ((a.ts.es.length:Int)<(b.ts.es.length:Int))=false:=by simp;omega
 have f2:decide ((a.ts.es.length:Int)=(b.ts.es.length:Int))=false:=by simp;omega
 have hz:cN a b=false:=by
  rw[hl,List.drop_length];have:(a.ts.es.drop b.ts.es.length)≠[]:=by simp[List.drop_eq_nil_iff];omega
  cases hd:a.ts.es.drop b.ts.es.length with
  |nil=>exact absurd hd this
  |cons y s=>simp[eqL]
 simp only[nG,nH,g1,g5,bG,f0,f1,f2,go_sem,seval];refine pP _ ?_;rw[hz];rfl
 ·rintro d ⟨x,y⟩ r env hp hes ⟨g1,g5,rfl,hI⟩;obtain⟨ga,gb,la,lb⟩:=X2 hes;have e1:decide ((d.length:Int)<(a.ts.es.length:Int))=true:=by simp;omega
  have e2:((d.length:Int)<(a.ts.es.length:Int))=True:=aK (by omega);have e3:decide ((d.length:Int)<(b.ts.es.length:Int))=true:=by simp;omega
  have e4:((d.length:Int)<(b.ts.es.length:Int))=True:=aK (by omega);have ew:wr .i64 ((d.length:Int)+1)=((d++[(x,y)]).length:Int):=by simp only[big]at hab;rw[aU (by omega) (by omega)];simp
  have hst:eqL iI a.ts.es b.ts.es=(iI x y&&eqL iI (a.ts.es.drop (d++[(x,y)]).length) (b.ts.es.drop (d++[(x,y)]).length)):=by rw[hI,i8 la,i8 lb,eqL];rw[aW la]at ga;rw[aW lb]at gb;cases ga;cases gb;simp
  have hlin:iI x y=false->cN a b=false:=by intro h;rw[cN,hst,h];simp
  clear hI;cases c1:Op.bytesLess x.v.bs y.v.bs
  case true=>
   simp only[nG,nH,g1,g5,e1,e2,e3,e4,ga,gb,c1,go_sem,seval];refine aY ?_;refine pP _ ?_;have:¬x.v.bs=y.v.bs:=by intro h;rw[h,tF]at c1;cases c1
   rw[hlin (by simp[iI,this])];rfl
  case false=>
  cases c2:decide (x.v.bs=y.v.bs)
  case false=>simp only[nG,nH,g1,g5,e1,e2,e3,e4,ga,gb,c1,c2,go_sem,seval];refine aY ?_;refine pP _ ?_;rw[hlin (by simp[iI,c2])];rfl
  case true=>
  cases c3:decide (x.c<y.c)
  case true=>
   simp only[nG,nH,g1,g5,e1,e2,e3,e4,ga,gb,c1,c2,c3,go_sem,seval];refine aY ?_;refine pP _ ?_;have:¬x.c=y.c:=by have:=aO c3;omega
   rw[hlin (by simp[iI,this])];rfl
  case false=>
  cases c4:decide (x.c=y.c)
  case false=>simp only[nG,nH,g1,g5,e1,e2,e3,e4,ga,gb,c1,c2,c3,c4,go_sem,seval];refine aY ?_;refine pP _ ?_;rw[hlin (by simp[iI,c4])];rfl
  case true=>simp only[nG,nH,g1,g5,e1,e2,e3,e4,ga,gb,c1,c2,c3,c4,go_sem,seval];rw[ew];refine⟨by kernel_rfl,rfl,?_⟩;rw[hst];simp[iI,c2,c4]
theorem c162(hf:pg.fs 162=some KA)(h191:pg.fs 191=some G8)(a b:Lin):Ret pg 162 [a.av,b.av] (.bool (cN a b)):=by obtain⟨r,hr,c,rfl,hc⟩:=c191 h191 a b;rw[Lin.avc,Lin.avc]at hr;refine Ret.ofX hf ?_;unfold KA;simp only[go_sem,seval];refine aB (hr) ?_;simp only[go_sem,seval];rw[<-hc]
theorem c121(hf:pg.fs 121=some R6)(h162:pg.fs 162=some KA)(h191:pg.fs 191=some G8)(a b:cZ):Ret pg 121 [a.av,b.av] (.bool (iB a b)):=by
 refine Ret.ofX hf ?_;unfold R6;have hab:=a.aSi.ok;cases b1:decide (a.row.bs=b.row.bs)
 case false=>simp only[b1,go_sem,seval];simp[iB,b1]
 case true=>
 cases b2:decide ((a.aSi.es.length:Int)=(b.aSi.es.length:Int))
 case false=>simp only[b1,b2,go_sem,seval];simp[iB,b1,B5 b2]
 case true=>
 have hl:a.aSi.es.length=b.aSi.es.length:=by have:=aO b2;omega
 have hs:iB a b=eqL cN a.aSi.es b.aSi.es:=by simp[iB,b1]
 rw[hs];simp only[b1,b2,go_sem,seval]
 refine aJ a.aSi.es (λd r env hp=>hp.get 1=some (0,.blk [.str a.row.bs,.sl a.aSi.nl (a.aSi.es.map Lin.av) a.aSi.cl] 2 true true false)/\hp.get 5=some (0,.blk [.str b.row.bs,.sl b.aSi.nl (b.aSi.es.map Lin.av) b.aSi.cl] 2 true true false) /\
  env=EM (.pt 1 0 0) (.pt 5 0 0) (.int .i64 d.length)/\eqL cN a.aSi.es b.aSi.es=eqL cN r (b.aSi.es.drop d.length)) ?_ ?_ ?_
 exact⟨rfl,rfl,rfl,rfl⟩;rintro env hp ⟨g1,g5,rfl,hI⟩;simp only[EL,EM,g1,bG,go_sem,seval];rw[hI,pY hl];rintro d x r env hp hes ⟨g1,g5,rfl,hI⟩;obtain⟨hget,e1,e2,ew⟩:=dJ hes hab;obtain⟨y,gy,f1,f2,hq⟩:=I3 (q:=cN) hes hl;rw[hq]at hI;rw[hI];clear hI;have a1:=c162 h162 h191 x y;rw[Lin.avc,Lin.avc]at a1;cases hxy:cN x y;simp only[EL,EM,g1,g5,hget,e1,e2,gy,f1,f2,go_sem,seval];refine aB a1 ?_;simp only[hxy,go_sem,seval];kernel_rfl;simp only[EL,EM,g1,g5,hget,e1,e2,gy,f1,f2,go_sem,seval];refine aB a1 ?_;simp only[hxy,ew,go_sem,seval];exact⟨by kernel_rfl,g1,g5,rfl⟩
end
end
section
section
variable{pg:Pg}
theorem c626(hf:pg.fs 626=some RC)(h638:pg.fs 638=some DK)(nl cl:Bool)(es:List Sp)(hb:es.length<=big)(s:Int):Ret pg 626 [.sl nl (es.map bO) cl,.int .i64 s] (.int .i64 (fitS es s)):=by
 refine Ret.ofX hf ?_;unfold RC;cases b1:decide (s<0)
 case true=>simp only[b1,go_sem,seval];rw[fitS,if_pos (.inl (aO b1))]
 cases b2:decide (1000000000<s)
 case true=>simp only[b1,b2,go_sem,seval];rw[fitS,if_pos (.inr (.inl (aO b2)))]
 have b1':=bW b1;have b2':=bW b2;simp only[b1,b2,go_sem,seval];refine aJ es (λd r env hp=>env=uN (.sl nl (es.map bO) cl) (.int .i64 s) (.int .i64 d.length)/\∀p∈d,lU p=false) ?_ ?_ ?_;exact⟨rfl,by simp⟩;rintro env hp ⟨rfl,hbad⟩;have hno:es.any lU=false:=by cases h:es.any lU;rfl;obtain⟨p,hp,h⟩:=List.any_eq_true.1 h;rw[hbad p hp]at h;cases h
 have hok:¬(s<0\/1000000000<s\/es.any lU=true):=by rw[hno];simp;omega
 simp only[uM,uN,bG,go_sem,seval];refine tH (α:=Int×Bool) (λx=>OB es x.1*2+(if x.2 then 1 else 0)) (λx env hp=>env=ME (.sl nl (es.map bO) cl) (.int .i64 s) (.int .i64 x.1) (.bool x.2)/\BC s es x.1/\x.1<=2000000000/\(x.2=false->vA s es x.1)) (0,true) ⟨rfl,min_zero s es,by simp,λh=>by cases h⟩ ?_;rintro⟨a,m⟩ env hp ⟨rfl,hmin,hle,hfree⟩;cases m
 case false=>simp only[MC,ME,go_sem,seval];rw[<-fitS_uniq hok hmin (hfree rfl)]
 have h0:=hmin.1;simp only at h0 hle hmin;simp only[MC,ME,go_sem,seval];refine aJ es (λd r env hp=>∃(a':Int)(m':Bool),env=MF (.sl nl (es.map bO) cl) (.int .i64 s) (.int .i64 a') (.bool m') (.int .i64 d.length)/\oQ s es a false=oQ s r a' m'/\0<=a'/\a'<=2000000000) ?_ ?_ ?_;exact⟨a,false,rfl,rfl,h0,hle⟩;rintro env hp ⟨a',m',rfl,hI,h1,h2⟩;rw[oQ]at hI;simp only[MD,MF,bG,go_sem,seval];have t1:=EX (m:=false) (λp hp=>hp) hmin;rw[hI]at t1;cases m';have t2:=yC (s:=s) (l:=es) (a:=a) (m:=false) (by rw[hI]);rw[hI]at t2;obtain⟨_,t3,t4⟩:=t2;simp only at t3;subst t3;exact⟨(a',false),by simp,rfl,hmin,hle,λ_=>t4⟩;rcases EW (s:=s) (l0:=es) (l:=es) (a:=a) (m:=false) (λp hp=>hp) (by rw[hI]) with t|⟨p,hp,t3,t4⟩
 cases t;rw[hI]at t4;have:=aAY (l:=es) t1.2 hp t3 t4;simp only at this t1;exact⟨(a',true),by simp only[aN];omega,rfl,t1.1,h2,λh=>by cases h⟩;rintro d x r env hp hes ⟨a',m',rfl,hI,h1,h2⟩;obtain⟨hget,e1,e2,ew⟩:=dJ hes hb;obtain⟨x1,x2,x3,x4⟩:=uT (hbad x (by rw[hes];simp));have w1:wr .i64 (x.1+x.2)=x.1+x.2:=aU (by omega) (by omega);have w2:wr .i64 (a'+s)=a'+s:=aU (by omega) (by omega);have a1:=c638 h638 (a',s) x w1 w2;rw[oQ]at hI;simp only[bO]at a1;simp only[MD,MF,e1,e2,hget,bO,go_sem,seval];refine aB a1 ?_;cases hm:fL (a',s) x;rw[hm,if_neg (by simp)]at hI;simp only[ew,go_sem,seval];exact⟨a',m',rfl,hI,h1,h2⟩;rw[hm,if_pos rfl]at hI;simp only[e1,e2,hget,bO,w1,ew,go_sem,seval];exact⟨by kernel_rfl,x.1+x.2,true,rfl,hI,by omega,by omega⟩;rintro d x r env hp hes ⟨rfl,hbad⟩;obtain⟨hget,e1,e2,ew⟩:=dJ hes hb;have hs:lU x=(decide (x.1<0)||decide (x.2<0)||decide (1000000000<x.1)||decide (1000000000<x.2)):=rfl;have hx:lU x=true->fitS es s = -1:=λh=>by rw[fitS,if_pos (.inr (.inr (List.any_eq_true.2 ⟨x,by rw[hes];simp,h⟩)))]
 cases b3:decide (x.1<0)
 case true=>simp only[uM,uN,e1,e2,hget,bO,b3,go_sem,seval];rw[hx (by rw[hs,b3];rfl)]
 cases b4:decide (x.2<0)
 case true=>simp only[uM,uN,e1,e2,hget,bO,b3,b4,go_sem,seval];rw[hx (by rw[hs,b3,b4];rfl)]
 cases b5:decide (1000000000<x.1)
 case true=>simp only[uM,uN,e1,e2,hget,bO,b3,b4,b5,go_sem,seval];rw[hx (by rw[hs,b3,b4,b5];rfl)]
 cases b6:decide (1000000000<x.2)
 case true=>simp only[uM,uN,e1,e2,hget,bO,b3,b4,b5,b6,go_sem,seval];rw[hx (by rw[hs,b3,b4,b5,b6];rfl)]
 simp only[uM,uN,e1,e2,hget,bO,b3,b4,b5,b6,ew,go_sem,seval];refine⟨rfl,λp hp=>?_⟩;rcases jM.1 hp with h|h;exact hbad p h;simp at h;subst h;rw[hs,b3,b4,b5,b6];rfl
end
end
section
theorem D2(l:List Sp)(i:Nat)(x:Sp)(h:l[i]?=some x):(0+i*2+2<=(aV l).length)=True/\List.take 2 (List.drop (0+i*2) (aV l))=[.int .i64 x.1,.int .i64 x.2]:=by obtain⟨hi,hx⟩:=cJ.1 h;have hl:=eL l;obtain⟨h1,h2⟩:=sK l i x h;refine⟨aK (by omega),?_⟩;rw[bF,i8 (by omega),i8 (by omega)];rw[aW (by omega)]at h1 h2;simp only[cF]at h1 h2;simp[h1,h2]
section
variable{pg:Pg}
end
end
section
structure aKO(pg:Pg):Prop where
 sort:∀(kb:Nat)(h:Hp)(k e:Nat)(l:List Sp),h.get k=some (e,.blk (aV l) 2 true false false)->l.length<=big->(∀p∈l,lU p=false) ->
  ∃l',l'.Perm l/\(l'.Pairwise λa b=>a.1<=b.1)/\wX pg 636 [.rf k e 0 l.length l.length,.fn 683 []] kb h (.tup []) (h.put k e (.blk (aV l') 2 true false false))
 sortN:∀(kb:Nat)(h:Hp)(nl cl:Bool),wX pg 636 [.sl nl [] cl,.fn 683 []] kb h (.tup []) h
open Go.Sort
abbrev GP:={p:Sp // lU p=false}
instance:Inhabited GP:=⟨⟨(0,0),rfl⟩⟩
def cfP(x y:GP):Int:=x.1.1-y.1.1
def HW(x:GP):List Value:=[.int .i64 x.1.1,.int .i64 x.1.2]
theorem ltP(x y:GP):Go.Proofs.ltOf cfP x y=decide (x.1.1<y.1.1):=by
 have h:(x.1.1-y.1.1<0)↔x.1.1<y.1.1:=by omega
 simp only[Go.Proofs.ltOf,cfP];exact eH.2 h
theorem aKU:SWO (Go.Proofs.ltOf cfP) where
 irrefl x:=by rw[ltP];simp
 trans x y z h1 h2:=by rw[ltP]at *;simp at *;omega
 ntrans x y z h1 h2:=by rw[ltP]at *;simp at *;omega
def DW(p:Sp):GP:=if h:lU p=false then ⟨p,h⟩ else default
theorem OM{p:Sp}(h:lU p=false):(DW p).1=p:=by simp[DW,h]
def gpA(l:List Sp):Array GP:=(l.map DW).toArray
theorem aCA(l:List Sp):(gpA l).size=l.length:=by simp[gpA]
def LG(l:List Sp):Array GP:=pdq (Go.Proofs.ltOf cfP) (gpA l) 0 (gpA l).size (Lib.bitLen (gpA l).size) true true
def Z3(l:List Sp):List Sp:=(LG l).toList.map (·.1)
theorem LN:∀{l:List Sp},(∀p∈l,lU p=false)->(l.map DW).map (·.1)=l
 |[],_=>rfl
 |p::l,h=>by simp only[List.map_cons,OM (h p (by simp)),List.cons.injEq,true_and];exact LN λq hq=>h q (by simp[hq])
theorem D5{l:List Sp}(h:∀p∈l,lU p=false):(Z3 l).Perm l/\(Z3 l).Pairwise λa b=>a.1<=b.1:=by
 obtain⟨⟨h1,_,h2⟩,h3⟩:=pdq_sorts (Go.Proofs.ltOf cfP) aKU (gpA l) 0 (gpA l).size (Lib.bitLen (gpA l).size) true true (Nat.zero_le _) (aX _) (Or.inl rfl);rw[<-LG.eq_1]at h1 h2 h3;constructor;have e1:(LG l).extract 0 (gpA l).size=LG l:=by rw[<-h1];simp
 have e2:(gpA l).extract 0 (gpA l).size=gpA l:=by simp
 rw[e1,e2]at h2;have:=h2.map (·.1);have e3:(gpA l).toList.map (·.1)=l:=LN h;rw[e3]at this;exact this;unfold Z3;rw[List.pairwise_map,List.pairwise_iff_getElem];intro i j hi hj hij;have:=h3 i j (Nat.zero_le _) hij (by rw[<-h1];simpa using hj);rw[ltP,getElem!_pos (LG l) i (by simpa using hi),getElem!_pos (LG l) j (by simpa using hj)]at this;have:=bW this;simp only[Array.getElem_toList];omega
def UI(x:Sp):List Sp->List Sp
 |[]=>[x]
 |y::r=>bif decide (x.1<=y.1) then x::y::r else y::UI x r
def YA:List Sp->List Sp
 |[]=>[]
 |x::r=>UI x (YA r)
theorem BW(x:Sp):∀l,(UI x l).Perm (x::l)
 |[]=>List.Perm.refl _
 |y::r=>by rw[UI];cases decide (x.1<=y.1);exact((BW x r).cons y).trans (List.Perm.swap x y r);exact List.Perm.refl _
theorem yI:∀l,(YA l).Perm l
 |[]=>List.Perm.refl _
 |x::r=>(BW x _).trans ((yI r).cons x)
theorem C6(x:Sp):∀l:List Sp,l.Pairwise (λa b=>a.1<=b.1)->(UI x l).Pairwise λa b=>a.1<=b.1
 |[],_=>by simp[UI]
 |y::r,h=>by rw[List.pairwise_cons]at h;rw[UI];cases hd:decide (x.1<=y.1);have hxy:=bW hd;simp only[cond_false,List.pairwise_cons];refine⟨?_,C6 x r h.2⟩;intro a ha;rcases dA.1 ((BW x r).subset ha) with rfl|ha;omega;exact h.1 a ha;have hxy:=aO hd;simp only[cond_true,List.pairwise_cons];refine⟨?_,h.1,h.2⟩;intro a ha;rcases dA.1 ha with rfl|ha;exact hxy;exact Int.le_trans hxy (h.1 a ha)
theorem zN:∀l:List Sp,(YA l).Pairwise λa b=>a.1<=b.1
 |[]=>List.Pairwise.nil
 |x::r=>C6 x _ (zN r)
def QU:List Sp->Bool
 |[]=>true
 |x::r=>r.all (λy => !(decide (x.1=y.1)))&&QU r
theorem DG:∀{l:List Sp},QU l=true->(l.map (·.1)).Nodup
 |[],_=>by simp
 |x::r,h=>by simp only[QU,aF,eT,eA,eJ]at h;rw[List.map_cons,List.nodup_cons];refine⟨?_,DG h.2⟩;intro hm;obtain⟨y,hy,he⟩:=List.mem_map.1 hm;exact h.1 y hy he.symm
theorem vJ:∀{a b:List Sp},a.Perm b->(a.map (·.1)).Nodup->a.Pairwise (λx y=>x.1<=y.1)->b.Pairwise (λx y=>x.1<=y.1)->a=b
 |[],b,h,_,_,_=>(List.Perm.nil_eq h)
 |x::r,[],h,_,_,_=>absurd h.symm.nil_eq (by simp)
 |x::r,y::s,h,hn,ha,hb=>by
  rw[List.pairwise_cons]at ha hb;rw[List.map_cons,List.nodup_cons]at hn;have hy':y∈x::r:=h.symm.subset (by simp);have h1:x.1<=y.1:=by rcases dA.1 hy' with rfl|hy;exact Int.le_refl _;exact ha.1 y hy
  have h2:y.1<=x.1:=by have:x∈y::s:=h.subset (by simp);rcases dA.1 this with rfl|hx;exact Int.le_refl _;exact hb.1 x hx
  have he:x.1=y.1:=by omega
  obtain rfl:y=x:=by rcases dA.1 hy' with h|hy;exact h;exact absurd (List.mem_map.2 ⟨y,hy,he.symm⟩) hn.1
  rw[vJ (List.Perm.cons_inv h) hn.2 ha.2 hb.2]
def uZ(l:List Sp):List Sp:=bif QU l then YA l else Z3 l
theorem sL{l:List Sp}(h:∀p∈l,lU p=false):uZ l=Z3 l:=by unfold uZ;cases hd:QU l;rfl;obtain⟨h1,h2⟩:=D5 h;refine vJ ((yI l).trans h1.symm) ?_ (zN l) h2;exact((yI l).map (·.1)).nodup_iff.2 (DG hd)
def pH:List Sp->List Int
 |[]=>[]
 |p::r=>p.1::p.2::pH r
theorem xI:∀l,(pH l).length=l.length*2
 |[]=>rfl
 |p::r=>by simp only[pH,List.length_cons,xI r];omega
theorem tL:∀l,aV l=(pH l).map aH
 |[]=>rfl
 |p::r=>by rw[aV,pH,tL r];rfl
def FA:List AV->Option (List Sp)
 |[]=>some []
 |.int .i64 a :: .int .i64 b::r=>(FA r).map ((a,b) :: ·)
 |_=>none
theorem OX:∀l,FA (aV l)=some l
 |[]=>rfl
 |p::r=>by simp[aV,FA,OX r]
theorem OY:∀{cs:List AV}{l:List Sp},FA cs=some l->cs=aV l
 |[],l,h=>by simp[FA]at h;subst h;rfl
 |.int .i64 a :: .int .i64 b::r,l,h=>by simp only[FA,tJ]at h;obtain⟨t,h1,rfl⟩:=h;rw[OY h1];rfl
def xO(args:List AV)(_:Nat)(h:Hp):Option (AV×Hp):=
 match args with
 |[.sl _ [] _,.fn 683 []]=>some (.tup [],h)
 |[.rf k e off len _,.fn 683 []]=>
  match h.get k with
  |some (e',.blk cs 2 true ti false)=>
   if e'=e/\off+len*2<=cs.length/\len<=16777216 then
    match FA ((cs.drop off).take (len*2)) with
    |some l=>if (l.all λp => !lU p)=true then some (.tup [],h.put k e (.blk (fN cs off (aV (uZ l))) 2 true ti false)) else none
    |none=>none
   else none
  |_=>none
 |_=>none
section
variable{pg:Pg}
theorem aFt(h1:pg.fs 636=none)(h2:pg.ex 636=some xO):aKO pg where
 sort:=by
  intro kb h k e l hg hb hok;obtain⟨q1,q2⟩:=D5 hok;refine⟨uZ l,by rw[sL hok];exact q1,by rw[sL hok];exact q2,?_⟩;have hlen:(uZ l).length=l.length:=by rw[sL hok];exact q1.length_eq
  refine xC h1 h2 ?_;simp only[big]at hb;simp only[xO,hg,bF,List.drop_zero];rw[if_pos ⟨trivial,by rw[eL];exact aX _,hb⟩,List.take_of_length_le (by rw[eL];exact aX _),OX];dsimp only;rw[if_pos (by rw[eT];intro p hp;rw[hok p hp];rfl)];simp only[fN,List.take_zero,fW,bF];rw[List.drop_eq_nil_of_le (by rw[eL,eL,hlen];exact aX _),List.append_nil]
 sortN:=by intro kb h nl cl;exact xC h1 h2 rfl
end
theorem YY(l:List Sp):Go.Sort.flatK HW 2 (l.map DW).toArray=((pH (l.map λp=>(DW p).1)).map (Value.int .i64)).toArray:=by
 have key:∀(l:List Sp)(t:Nat),t<l.length*2->(HW (l.map DW).toArray[t / 2]!)[t % 2]! = ((pH (l.map λp=>(DW p).1)).map (Value.int .i64))[t]!:=by
  intro l
  induction l with
  |nil=>intro t h;simp at h
  |cons p l ih=>
   intro t h
   match t with
   |0=>rfl
   |1=>rfl
   |t+2=>have:=ih t (by simp at h;omega);rw[show (t+2) / 2=t / 2+1 from by omega,show (t+2) % 2=t % 2 from by omega];simpa[pH] using this
 have hs:(Go.Sort.flatK HW 2 (l.map DW).toArray).size=l.length*2:=by simp
 apply Array.ext;rw[hs];simp[xI];intro i h1 h2;have:=key l i (by omega);rw[<-getElem!_pos _ i h1,Go.Sort.get_flatK _ _ _ _ (by simpa using (by omega:i<l.length*2)),this,getElem!_pos _ i (by simpa using h2)];simp
theorem PN(zs:List Int)(w:World)(blk off:Nat):putRow id w blk off (zs.map (Value.int .i64)).toArray=putRow (Value.int .i64) w blk off zs.toArray:=by simp only[putRow];congr 1;funext c;apply Array.ext;simp[putCells];intro i h1 h2;simp only[putCells,Array.getElem_mapIdx,List.size_toArray,aM];split;rename_i hc;rw[getElem!_pos _ _ (by simpa using (by omega:i-off<zs.length)),getElem!_pos zs.toArray _ (by simpa using (by omega:i-off<zs.length))];simp;rfl
theorem UJ{zs:List Int}{w:World}{blk off:Nat}(h:Holds (Value.int .i64) w blk off zs.toArray):Holds id w blk off (zs.map (Value.int .i64)).toArray:=by
 intro j hj;have hj':j<zs.length:=by simpa using hj
 obtain⟨h1,h2⟩:=h j (by simpa using hj');refine⟨?_,h2⟩;rw[h1,getElem!_pos (zs.map (Value.int .i64)).toArray j hj,getElem!_pos zs.toArray j (by simpa using hj')];simp
theorem YO{l:List Sp}(h:∀p∈l,lU p=false):(l.map λp=>(DW p).1)=l:=by have:=LN h;rwa [List.map_map]at this
theorem TC{P:Program}{r:Go.Shelf.Ren}(L:Go.Proofs.SlLaysF0.n6 P r)(aE:∀w,(Go.isAgg (r.t 24)).run P w = .ok true w)(zE:∀w,(Go.sizeOf (r.t 24)).run P w = .ok 2 w)(g:Nat)
  (eg:∀args w,(callFunc g args).run P w = .ok (.enter g args) w)
  (hcmp:∀(x y:GP)(W:World),Calls P g #[.agg (HW x).toArray,.agg (HW y).toArray] W λe w'=>e = .returned (.int .i64 (cfP x y))/\∃q os',w'=grow (W.drewN q) os')
  (blk off cap:Nat) (l:List Sp) (w:World) (hok:∀p∈l,lU p=false) (hH:Holds (Value.int .i64) w blk off (pH l).toArray) (hb:blk<w.heap.size) (hl:l.length<=16777216) :
  Calls P (r.f 6) #[.slice (some ⟨blk,off,none⟩) l.length cap,.func (.func g) #[] #[]] w λe w'=>e = .returned (.tuple #[])/\∃n os,w'=grow (putRow (Value.int .i64) (Sort.ahead w n) blk off (pH (uZ l)).toArray) os:=by
 have hsz:(gpA l).size=l.length:=aCA l
 have h:=Go.Proofs.AnyQ.slices_SortFunc_eq L 2 aE zE HW (λ_=>rfl) (λx v hv=>by simp[HW]at hv;rcases hv with rfl|rfl<;>rfl) cfP aKU g #[] blk off cap (gpA l) w eg
  (λ_ _ _ _ x y=>hcmp x y _) (by
   unfold Go.Sort.HoldsK gpA;rw[YY,YO hok];exact UJ hH) hb (by omega)
 rw[hsz]at h;refine h.mono ?_;rintro e w' ⟨rfl,n,os,rfl⟩;refine⟨rfl,n,os,?_⟩;have e1:LG l=((uZ l).map DW).toArray:=by
  rw[sL hok,Z3,List.map_map]
  have:(DW ∘ λx:GP=>x.1)=id:=by funext x;apply Subtype.ext;exact OM x.2
  rw[this];simp
 have hok2:∀p∈uZ l,lU p=false:=by intro p hp;rw[sL hok]at hp;exact hok p ((D5 hok).1.subset hp)
 have e2:pdq (Go.Proofs.ltOf cfP) (gpA l) 0 l.length (Lib.bitLen l.length) true true=LG l:=by rw[LG,hsz]
 rw[e2,e1,Go.Proofs.sortWorldK,Go.Sort.putRowK,YY,YO hok2,PN]
section
variable{P:Program}{num:Nm}{gl:Nat->Option AV}{bE:Nat->Nat}
theorem aEZ(hfn:H5 P (num 636))
  (hc:∀(blk off cap:Nat)(l:List Sp)(w:World),(∀p∈l,lU p=false)->Holds (Value.int .i64) w blk off (pH l).toArray->blk<w.heap.size->l.length<=16777216 ->
   Calls P (num 636) #[.slice (some ⟨blk,off,none⟩) l.length cap,.func (.func (num 683)) #[] #[]] w λe w'=>e = .returned (.tuple #[])/\∃n os,w'=grow (putRow (Value.int .i64) (Sort.ahead w n) blk off (pH (uZ l)).toArray) os)
  (hn:∀(p:Option Addr)(cap:Nat)(fv:Value)(w:World),Calls P (num 636) #[.slice p 0 cap,fv] w λe w'=>e = .returned (.tuple #[])/\w'=w) :
  j8 P num gl bE ⟨λf' avs kb h=>if f'=636 then xO avs kb h else none,λ_ _ _ _=>none⟩:=by
 intro f avs kb h r h' hr;dsimp only at hr;split at hr
 case isFalse=>cases hr
 rename_i hf;subst hf;refine⟨hfn,?_⟩;intro Fb B0 ρ O w vs H hG hv;have htup:∀{ρ : Rho}{w:World}{F:Nat->Prop},Rv num ρ w F (.tup []) (.tuple #[]):=.tup _ _ rfl (λi x y hx=>by simp at hx);unfold xO at hr;split at hr;cases hr;cases hv with
 |@cons _ c1 _ _ hrv h2=>
  obtain⟨c2,rfl,hrf⟩:=nK h2;have:∃p cap,c1 = .slice p 0 cap:=by cases hrv<;>exact⟨_,_,rfl⟩
  obtain⟨p,cap,rfl⟩:=this;refine(hn p cap c2 w).mono ?_;rintro e w' ⟨rfl,rfl⟩;exact⟨_,ρ,O,rfl,Evo.refl _ _ _,H,htup⟩
 rename_i k e off len cap;split at hr
 case h_2=>cases hr
 rename_i e' cs ti hg;split at hr
 case isFalse=>cases hr
 rename_i hcond;obtain⟨rfl,hle,hbig⟩:=hcond;split at hr
 case h_2=>cases hr
 rename_i l hl;split at hr
 case isFalse=>cases hr
 rename_i hall;cases hr;have hok:∀p∈l,lU p=false:=by rw[eT]at hall;intro p hp;simpa using hall p hp
 cases hv with
 |cons hrv h2=>
  obtain⟨c2,rfl,hrf⟩:=nK h2;have hc2:c2 = .func (.func (num 683)) #[] #[]:=by
   cases hrf with
   |fn f cs vs hl h=>
    have:vs = #[]:=by apply Array.ext;simpa using hl.symm;intro i h1 h2;simp at h2
    rw[this]
  subst hc2;cases hrv with
  |rf _ _ _ _ _ cap' L hL hlen hcap ht hroom=>
   have hzs:(cs.drop off).take (len*2)=(pH l).map aH:=by rw[<-tL];exact OY hl
   obtain⟨hH,hb,hzl⟩:=FL H hg hL hzs hle;rw[xI]at hzl;have hll:l.length=len:=by omega
   have hcall:=hc L.b (L.base+off) cap' l w hok hH hb (by omega);rw[hll]at hcall;refine hcall.mono ?_;rintro e w' ⟨rfl,n,os,rfl⟩;have hql:(uZ l).length=l.length:=by rw[sL hok];exact(D5 hok).1.length_eq
   obtain⟨ev,H1⟩:=TJ (n:=n) H hg hL (zs:=pH (uZ l)) (by rw[xI,hql];omega) hle;obtain⟨ev2,H2⟩:=p9 H1 (F7 _ os);refine⟨_,ρ,O,rfl,ev.trans ev2,?_,htup⟩;rw[tL];exact H2
 cases hr
end
end
end Go.Tev
section
namespace Go.Proofs
open Go.Shelf Go.RowKit Go.Lib Go.Sort
def Tryz.sortPl_ren:Go.Shelf.Ren:=⟨λ|6=>40|15=>71|14=>70|28=>114|29=>115|20=>106|21=>107|22=>108|23=>109|24=>110|25=>111|26=>112|27=>113|46=>168|47=>169|48=>170|49=>171|50=>172|57=>219|n=>n,λ|22=>29|24=>40|25=>92|3=>3|39=>133|0=>0|53=>168|55=>170|4=>4|46=>162|45=>161|50=>134|5=>5|9=>9|66=>220|70=>224|76=>257|77=>258|n=>n,λ|n=>n⟩
theorem fR{α : Type}{x:Option α}{a b : α}(h:x=some a)(k:a=b:=by kernel_rfl):x=some b:=h.trans (congrArg some k)
theorem Tryz.sortPl:Go.Proofs.SlLaysF0.n6 Tryz.prog Tryz.sortPl_ren:={
 mixed:=by kernel_rfl
 f6:=⟨Tryz.f40.name,by decide,fR Tryz.func40⟩
 f14:=⟨Tryz.f70.name,by decide,fR Tryz.func70⟩
 f15:=fR Tryz.func71
 f20:=⟨Tryz.f106.name,by decide,fR Tryz.func106⟩
 f21:=⟨Tryz.f107.name,by decide,fR Tryz.func107⟩
 f22:=⟨Tryz.f108.name,by decide,fR Tryz.func108⟩
 f23:=⟨Tryz.f109.name,by decide,fR Tryz.func109⟩
 f24:=⟨Tryz.f110.name,by decide,fR Tryz.func110⟩
 f25:=⟨Tryz.f111.name,by decide,fR Tryz.func111⟩
 f26:=⟨Tryz.f112.name,by decide,fR Tryz.func112⟩
 f27:=⟨Tryz.f113.name,by decide,fR Tryz.func113⟩
 f28:=fR Tryz.func114
 f29:=fR Tryz.func115
 f46:=⟨Tryz.f168.name,by decide,fR Tryz.func168⟩
 f47:=fR Tryz.func169
 f48:=fR Tryz.func170
 f49:=⟨Tryz.f171.name,by decide,fR Tryz.func171⟩
 f50:=⟨Tryz.f172.name,by decide,fR Tryz.func172⟩
 f57:=⟨Tryz.f219.name,by decide,fR Tryz.func219⟩
 t0:=Tryz.underlying0
 a0:=Tryz.isAgg0
 z0:=Tryz.sizeOf0
 v0:=Tryz.zeroValue0
 t3:=Tryz.underlying3
 a3:=Tryz.isAgg3
 z3:=Tryz.sizeOf3
 v3:=Tryz.zeroValue3
 t4:=Tryz.underlying4
 a4:=Tryz.isAgg4
 z4:=Tryz.sizeOf4
 v4:=Tryz.zeroValue4
 t5:=Tryz.underlying5
 a5:=Tryz.isAgg5
 z5:=Tryz.sizeOf5
 v5:=Tryz.zeroValue5
 t9:=Tryz.underlying9
 a9:=Tryz.isAgg9
 z9:=Tryz.sizeOf9
 v9:=Tryz.zeroValue9
 t22:=Tryz.underlying29
 a22:=Tryz.isAgg29
 z22:=Tryz.sizeOf29
 v22:=Tryz.zeroValue29
 t25:=Tryz.underlying92
 a25:=Tryz.isAgg92
 z25:=Tryz.sizeOf92
 v25:=Tryz.zeroValue92
 t39:=Tryz.underlying133
 a39:=Tryz.isAgg133
 z39:=Tryz.sizeOf133
 v39:=Tryz.zeroValue133
 t45:=Tryz.underlying161
 a45:=Tryz.isAgg161
 z45:=Tryz.sizeOf161
 v45:=Tryz.zeroValue161
 t46:=Tryz.underlying162
 a46:=Tryz.isAgg162
 z46:=Tryz.sizeOf162
 v46:=Tryz.zeroValue162
 t50:=Tryz.underlying134
 a50:=Tryz.isAgg134
 z50:=Tryz.sizeOf134
 v50:=Tryz.zeroValue134
 t53:=Tryz.underlying168
 a53:=Tryz.isAgg168
 z53:=Tryz.sizeOf168
 v53:=Tryz.zeroValue168
 t55:=Tryz.underlying170
 a55:=Tryz.isAgg170
 z55:=Tryz.sizeOf170
 v55:=Tryz.zeroValue170
 t66:=Tryz.underlying220
 a66:=Tryz.isAgg220
 z66:=Tryz.sizeOf220
 v66:=Tryz.zeroValue220
 t70:=Tryz.underlying224
 a70:=Tryz.isAgg224
 z70:=Tryz.sizeOf224
 v70:=Tryz.zeroValue224
 t76:=Tryz.underlying257
 a76:=Tryz.isAgg257
 z76:=Tryz.sizeOf257
 v76:=Tryz.zeroValue257
 t77:=Tryz.underlying258
 a77:=Tryz.isAgg258
 z77:=Tryz.sizeOf258
 v77:=Tryz.zeroValue258}
open Go.Tev in
theorem aDd(x y:GP)(W:World):Calls Tryz.prog 41 #[.agg (HW x).toArray,.agg (HW y).toArray] W λe w'=>e = .returned (.int .i64 (cfP x y))/\∃q os',w'=grow (W.drewN q) os':=by
 have hw:IntKind.i64.wrap (x.1.1-y.1.1)=x.1.1-y.1.1:=by have h1:=uT x.2;have h2:=uT y.2;simp[IntKind.wrap,IntKind.bits,IntKind.signed];omega
 unfold HW cfP;generalize x.1.1=a at hw ⊢;generalize x.1.2=b;generalize y.1.1=c at hw ⊢;generalize y.1.2=d
 go_enter Tryz.func41,Tryz.ntmps41
 go_wp2
 go_ret
 exact⟨rfl,0,_,by rw[alloc_eq_grow,alloc_eq_grow,grow_grow];rfl⟩
open Go.Tev in
theorem TB(blk off cap:Nat)(l:List Sp)(w:World)(hok:∀p∈l,lU p=false)(hH:Holds (Value.int .i64) w blk off (pH l).toArray)(hb:blk<w.heap.size)(hl:l.length<=16777216) :
  Calls Tryz.prog 40 #[.slice (some ⟨blk,off,none⟩) l.length cap,.func (.func 41) #[] #[]] w λe w'=>e = .returned (.tuple #[])/\∃n os,w'=grow (putRow (Value.int .i64) (Sort.ahead w n) blk off (pH (uZ l)).toArray) os:=
 TC Tryz.sortPl Tryz.isAgg40 Tryz.sizeOf40 41 (enters_of Tryz.func41 (by kernel_rfl) rfl) aDd blk off cap l w hok hH hb hl
end Go.Proofs
end
