import Derived.Test.YtmcadllokkmeiaaGreatDoorCAT
import Derived.Test.YtmcadllokkmeiaaGreatDoorCAR
import Derived.Shelf.SlSortCmp.WholeK
import Derived.KernelRfl
import Derived.Shelf.SlSortCmp.NoneTotal
import Derived.Test.YtmcadllokkmeiaaGreatDoorProg
set_option linter.all false
namespace Go.Tev
section
section
variable{pg:Pg}
theorem c114(hf:pg.fs 114=some HW)(c:UInt8):Ret pg 114 [.int .u8 (c.toNat:Int)] (.bool (bL c)):=by
 refine Ret.ofX hf ?_;unfold HW;cases b1:decide (48<=(c.toNat:Int));simp only[b1,go_sem,seval];have:¬ 48<=c.toNat:=by have:=bH b1;omega
 simp[bL,this];simp only[b1,go_sem,seval];have:48<=c.toNat:=by have:=aM b1;omega
 simp only[bL,this,decide_true,Bool.true_and];rw[dC];omega
theorem c115(hf:pg.fs 115=some HV)(c:UInt8):Ret pg 115 [.int .u8 (c.toNat:Int)] (.bool (gK c)):=by
 refine Ret.ofX hf ?_;unfold HV;cases b1:decide (97<=(c.toNat:Int));simp only[b1,go_sem,seval];have:¬ 97<=c.toNat:=by have:=bH b1;omega
 simp[gK,this];simp only[b1,go_sem,seval];have:97<=c.toNat:=by have:=aM b1;omega
 simp only[gK,this,decide_true,Bool.true_and];rw[dC];omega
theorem c90(hf:pg.fs 90=some W3)(n:Int):Ret pg 90 [.int .i64 n] (.bool (nT n)):=by refine Ret.ofX hf ?_;unfold W3;cases b1:decide (-1000000<=n);simp only[b1,go_sem,seval];simp[nT,b1];simp only[b1,go_sem,seval];simp[nT,b1]
theorem c77(hf:pg.fs 77=some aAQ)(h114:pg.fs 114=some HW)(h115:pg.fs 115=some HV)(s:List UInt8)(hb:s.length<=big):Ret pg 77 [.str s] (.bool (gR s)):=by
 refine Ret.ofX hf ?_;unfold aAQ;cases b0:decide ((s.length:Int)=0)
 case true=>have:s=[]:=hY (by have:=aM b0;omega);simp only[b0,go_sem,seval];subst this;rfl
 case false=>
 obtain⟨c,t,hs⟩:∃c t,s=c::t:=by
  cases s with
  |nil=>simp at b0
  |cons c t=>exact⟨c,t,rfl⟩
 have hg0:s[0]?=some c:=by rw[hs];rfl
 have hlt:s.length=t.length+1:=by rw[hs];rfl
 have hnu:gR s=(decide (s.length<=30)&&(if c=95 then decide (2<=s.length)&&decide (s.length<=10) && !decide (t.head?=some 48)&&t.all bL else gK c&&t.all (λx=>gK x||bL x))):=by rw[hs];rfl
 cases b1:decide (30<(s.length:Int))
 case true=>
  simp only[b0,b1,go_sem,seval];have:¬s.length<=30:=by have:=aM b1;omega
  simp[hnu,this]
 case false=>
 have h30:s.length<=30:=by have:=bH b1;omega
 have hd30:decide (s.length<=30)=true:=decide_eq_true h30;rw[hnu,hd30,Bool.true_and];clear hnu;simp only[b0,b1,hg0,go_sem,seval];have hi0:∀(d:List UInt8)(x:UInt8)(r:List UInt8),s=d++x::r->s[d.length]?=some x/\decide ((d.length:Int)<(s.length:Int))=true/\wr .i64 ((d.length:Int)+1)=((d++[x]).length:Int):=by intro d x r he;refine⟨by rw[he];simp,by rw[he];simp;omega,?_⟩;exact aW (r:=r) (by rw[<-he];exact hb)
 cases b2:decide ((c.toNat:Int)=95)
 case true=>
  have hc:c=95:=by have h:=aM b2;exact UInt8.toNat_inj.1 (by simpa using (show c.toNat=95 by omega))
  rw[if_pos hc];cases b3:decide ((s.length:Int)<2)
  case true=>
   have:¬ 2<=s.length:=by have:=aM b3;omega
   simp only[b3,go_sem,seval];simp[this]
  case false=>
  have h2:2<=s.length:=by have:=bH b3;omega
  cases b4:decide (10<(s.length:Int))
  case true=>
   have:¬s.length<=10:=by have:=aM b4;omega
   simp only[b3,b4,go_sem,seval];simp[this]
  case false=>
  have h10:s.length<=10:=by have:=bH b4;omega
  obtain⟨d,u,ht⟩:∃d u,t=d::u:=by
   cases t with
   |nil=>simp at hlt;omega
   |cons d u=>exact⟨d,u,rfl⟩
  have hg1:s[1]?=some d:=by rw[hs,ht];rfl
  have hhd:t.head?=some d:=by rw[ht];rfl
  cases b5:decide ((d.toNat:Int)=48)
  case true=>
   have hd:d=48:=by have h:=aM b5;exact UInt8.toNat_inj.1 (by simpa using (show d.toNat=48 by omega))
   simp only[b3,b4,hg1,b5,go_sem,seval];simp[hhd,hd]
  case false=>
  have hd:¬d=48:=by intro h;subst h;exact absurd rfl (bH b5)
  have hres:(decide (2<=s.length)&&decide (s.length<=10) && !decide (t.head?=some 48)&&t.all bL)=t.all bL:=by simp[h2,h10,hhd,hd]
  rw[hres];simp only[b3,b4,hg1,b5,go_sem,seval];refine aK t (λe r env hp=>env=RO (.str s) (.int .i64 ((e.length+1:Nat):Int))/\t.all bL=r.all bL) ?_ ?_ ?_;exact⟨rfl,rfl⟩;rintro env hp ⟨rfl,hI⟩;have hex:decide (((t.length+1:Nat):Int)<(s.length:Int))=false:=by simp;omega
  simp only[RM,RO,hex,go_sem,seval];rw[hI];rfl;rintro e x r env hp he ⟨rfl,hI⟩;have hse:s=(c::e)++x::r:=by rw[hs,he];rfl
  obtain⟨k1,k2,k3⟩:=hi0 _ _ _ hse;have k0:(c::e).length=e.length+1:=rfl;have k4:((c::e)++[x]).length=(e++[x]).length+1:=by simp
  rw[k0]at k1 k2 k3;rw[k4]at k3;simp only[RM,RO,k1,k2,go_sem,seval];refine bT (c114 h114 x) rfl rfl ?_;cases hx:bL x;simp only[hx,go_sem,seval];rw[hI];simp[hx];simp only[hx,k3,go_sem,seval];refine⟨rfl,?_⟩;rw[hI];simp[hx]
 case false=>
  have hc:¬c=95:=by intro h;subst h;exact absurd rfl (bH b2)
  rw[if_neg hc];simp only[b2,go_sem,seval];refine aK s (λe r env hp=>env=RN (.str s) (.int .i64 e.length)/\(e=[]\/(gK c&&t.all (λx=>gK x||bL x))=r.all (λx=>gK x||bL x))) ?_ ?_ ?_;exact⟨rfl,.inl rfl⟩;rintro env hp ⟨rfl,hI⟩;have hex:decide ((s.length:Int)<(s.length:Int))=false:=by simp
  simp only[RL,RN,hex,go_sem,seval];rcases hI with h|h;exact absurd h (by rw[hs];simp);rw[h];rfl
  ·rintro e x r env hp he ⟨rfl,hI⟩;obtain⟨k1,k2,k3⟩:=hi0 _ _ _ he
   have hI2:(gK c&&t.all (λx=>gK x||bL x))=((if e=[] then gK x else (gK x||bL x))&&r.all (λx=>gK x||bL x)):=by
    rcases hI with h|h;subst h;rw[hs]at he;simp only[List.nil_append,List.cons.injEq]at he;obtain⟨rfl,rfl⟩:=he;simp;by_cases h0:e=[]
    subst h0;rw[hs]at he;simp only[List.nil_append,List.cons.injEq]at he;obtain⟨rfl,rfl⟩:=he;simp;rw[h,if_neg h0];simp
   rw[hI2];clear hI hI2;simp only[RL,RN,k1,k2,go_sem,seval];refine bT (c115 h115 x) rfl rfl ?_;cases hx:gK x
   case true=>simp only[hx,k3,go_sem,seval];refine⟨rfl,.inr ?_⟩;split<;>simp
   case false=>
   by_cases h0:e=[]
   have h1:decide ((e.length:Int)=0)=true:=by simp[h0]
   simp only[hx,h1,go_sem,seval];simp[h0];have h1:decide ((e.length:Int)=0)=false:=by simp[h0]
   simp only[hx,h1,k1,go_sem,seval];refine bT (c114 h114 x) rfl rfl ?_;cases hy:bL x;simp only[hx,hy,go_sem,seval];simp[h0];simp only[hx,hy,k3,go_sem,seval];refine⟨rfl,.inr ?_⟩;simp[h0]
theorem c54(hf:pg.fs 54=some aBd)(h77:∀s:Str,Ret pg 77 [.str s.bs] (.bool (gR s.bs)))(h90:pg.fs 90=some W3)(l:Lin):Ret pg 54 [l.av] (.bool (fE l)):=by
 refine Ret.ofX hf ?_;unfold aBd;simp only[go_sem,seval];refine aB (c90 h90 _) ?_;simp only[go_sem,seval];cases h9:nT l.c
 case false=>simp only[go_sem,seval];simp[fE,h9]
 cases h12:decide (12<(l.ts.es.length:Int))
 case true=>
  simp only[h12,go_sem,seval];have:¬(l.ts.es.length:Int)<=12:=by have:=aM h12;omega
  simp[fE,this]
 simp only[h12,go_sem,seval];have hlin:fE l=pR [] l.ts.es:=by
  have:(l.ts.es.length:Int)<=12:=by have:=bH h12;omega
  simp[fE,h9,this]
 refine aK l.ts.es (λd r env hp=>hp.get 1=some (0,.blk [.int .i64 l.c,.sl l.ts.nl (l.ts.es.map cL.av) l.ts.cl] 2 true true false) /\
  env=R3 (.pt 1 0 0) (.int .i64 d.length)/\fE l=pR d r) ?_ ?_ ?_
 exact⟨rfl,rfl,hlin⟩;rintro env hp ⟨h1,rfl,hq⟩;simp only[R2,R3,h1,go_sem,seval];rw[hq];rfl;rintro d x r env hp hes ⟨h1,rfl,hq⟩;have hb:=l.ts.ok;have hget:l.ts.es[d.length]?=some x:=by rw[hes];simp
 have e1:decide ((d.length:Int)<(l.ts.es.length:Int))=true:=by rw[hes];simp;omega
 have e2:((d.length:Int)<(l.ts.es.length:Int))=True:=eq_true (by rw[hes];simp;omega);have hsb:(d++x::r).length<=big:=by rw[<-hes];exact hb
 simp only[pR]at hq;simp only[R2,R3,h1,hget,e1,e2,go_sem,seval];refine aB (h77 x.v) ?_;simp only[go_sem,seval];cases hn:gR x.v.bs
 case false=>simp only[go_sem,seval];refine aQ ?_;simp[hq,hn]
 cases hc:decide (x.c=0)
 case true=>simp only[hc,go_sem,seval];refine aQ ?_;simp[hq,hc]
 simp only[hc,go_sem,seval];refine aB (c90 h90 x.c) ?_;simp only[go_sem,seval];cases hx9:nT x.c
 case false=>simp only[go_sem,seval];refine aQ ?_;simp[hq,hx9]
 rcases mK d with hd|⟨d',q,hd⟩
 have e3:decide (0<(d.length:Int))=false:=by simp[hd]
 simp only[hx9,e3,aW hsb,go_sem,seval];refine And.intro (by kernel_rfl) ⟨h1,rfl,?_⟩;subst hd;simp[hq,hx9,hc,hn];have hd':d=d'++[q]:=by simpa using hd
 have e3:decide (0<(d.length:Int))=true:=by simp[hd']
 have e4:wr .i64 ((d.length:Int)-1)=(d'.length:Int):=by rw[aO (by simp only[hd',bX,List.length_singleton];omega) (by simp only[big,bX]at hsb;omega),hd',bX,List.length_singleton];omega
 have e5:l.ts.es[d'.length]?=some q:=by rw[hes,hd'];simp
 have e6:((d'.length:Int)<(l.ts.es.length:Int))=True:=eq_true (by rw[hes,hd'];simp;omega);cases hl:Op.bytesLess q.v.bs x.v.bs;simp only[hx9,e3,e4,e5,e6,h1,hl,go_sem,seval];refine aQ ?_;simp[hq,hd',hl];simp only[hx9,e3,e4,e5,e6,h1,hl,aW hsb,go_sem,seval];refine And.intro (by kernel_rfl) ⟨rfl,?_⟩;simp[hq,hx9,hc,hn,hd',hl]
end
end
section
section
variable{pg:Pg}
theorem A7(l:Lin)(r:List Lin)(vars:List Str):cU (l::r) vars=(fE l&&(l.ts.es.all (λx=>lD vars x.v.bs)&&cU r vars)):=by simp[cU,Bool.and_assoc]
theorem c80(hf:pg.fs 80=some aAO)(h54:∀l:Lin,Ret pg 54 [l.av] (.bool (fE l)))(nl cl:Bool)(ls:List Lin)(hb:ls.length<=big)(nl' cl':Bool)(vars:List Str)(hb':vars.length<=big) :
  Ret pg 80 [.sl nl (ls.map Lin.av) cl,.sl nl' (vars.map Str.av) cl'] (.bool (cU ls vars)):=by
 refine Ret.ofX hf ?_;unfold aAO;simp only[go_sem,seval];refine aK ls (λd r env hp=>env=RJ (.sl nl (ls.map Lin.av) cl) (.sl nl' (vars.map Str.av) cl') (.int .i64 d.length)/\cU ls vars=cU r vars) ?_ ?_ ?_;exact⟨rfl,rfl⟩;rintro env hp ⟨rfl,hI⟩;simp only[RH,RJ,go_sem,seval];rw[hI];rfl;rintro d l r env hp hes ⟨rfl,hI⟩;rw[A7]at hI;have hsb:(d++l::r).length<=big:=by rw[<-hes];exact hb
 have hget:ls[d.length]?=some l:=by rw[hes];simp
 have e1:decide ((d.length:Int)<(ls.length:Int))=true:=by rw[hes];simp;omega
 have e2:((d.length:Int)<(ls.length:Int))=True:=eq_true (by rw[hes];simp;omega);rw[hI];clear hI;simp only[RH,RJ,hget,e1,e2,go_sem,seval];refine aB (h54 l) ?_;simp only[go_sem,seval];cases hl:fE l
 case false=>simp only[go_sem,seval]
 simp only[go_sem,seval];have hlb:=l.ts.ok;refine aK l.ts.es (λd2 r2 env hp=>env=RK (.sl nl (ls.map Lin.av) cl) (.sl nl' (vars.map Str.av) cl') (.int .i64 d.length) (.int .i64 d2.length)/\l.ts.es.all (λx=>lD vars x.v.bs)=r2.all (λx=>lD vars x.v.bs)) ?_ ?_ ?_;exact⟨rfl,rfl⟩;rintro env hp ⟨rfl,hI⟩;have f1:decide ((l.ts.es.length:Int)<(l.ts.es.length:Int))=false:=by simp
 simp only[RI,RK,hget,e2,f1,aW hsb,go_sem,seval];refine⟨rfl,?_⟩;rw[hI];simp;rintro d2 x r2 env hp he2 ⟨rfl,hI⟩;have hsb2:(d2++x::r2).length<=big:=by rw[<-he2];exact hlb
 have hget2:l.ts.es[d2.length]?=some x:=by rw[he2];simp
 have g1:decide ((d2.length:Int)<(l.ts.es.length:Int))=true:=by rw[he2];simp;omega
 have g2:((d2.length:Int)<(l.ts.es.length:Int))=True:=eq_true (by rw[he2];simp;omega);rw[hI];clear hI;simp only[RI,RK,hget,e2,g1,go_sem,seval];refine aK vars (λd3 r3 env hp=>env=JG (.sl nl (ls.map Lin.av) cl) (.sl nl' (vars.map Str.av) cl') (.int .i64 d.length) (.int .i64 d2.length) (.bool (d3.any λs=>decide (x.v.bs=s.bs))) (.int .i64 d3.length)) ?_ ?_ ?_;rfl;rintro env hp rfl;simp only[JF,JG,go_sem,seval];have hh:(vars.any λs=>decide (x.v.bs=s.bs))=lD vars x.v.bs:=rfl;rw[hh];cases hv:lD vars x.v.bs
 case false=>simp only[go_sem,seval]
 case true=>simp only[aW hsb2,go_sem,seval];rfl
 rintro d3 y r3 env hp he3 rfl;have hsb3:(d3++y::r3).length<=big:=by rw[<-he3];exact hb'
 have hget3:vars[d3.length]?=some y:=by rw[he3];simp
 have k1:decide ((d3.length:Int)<(vars.length:Int))=true:=by rw[he3];simp;omega
 have k2:((d3.length:Int)<(vars.length:Int))=True:=eq_true (by rw[he3];simp;omega);have hany:((d3++[y]).any λs=>decide (x.v.bs=s.bs))=((d3.any λs=>decide (x.v.bs=s.bs))||decide (x.v.bs=y.bs)):=by simp
 rw[hany];cases hA:(d3.any λs=>decide (x.v.bs=s.bs))
 case true=>simp only[JF,JG,k1,k2,hget3,aW hsb3,go_sem,seval];exact⟨by kernel_rfl,rfl⟩
 case false=>
  have hsym:decide (y.bs=x.v.bs)=decide (x.v.bs=y.bs):=by rw[dC];exact eq_comm
  simp only[JF,JG,k1,k2,hget3,hget,hget2,e2,g2,hsym,aW hsb3,go_sem,seval];exact⟨by kernel_rfl,rfl⟩
theorem c160(hf:pg.fs 160=some HQ)(s:List UInt8)(hb:s.length<=big):Ret pg 160 [.str s] (.bool (gL s)):=by
 refine Ret.ofX hf ?_;unfold HQ;cases b0:decide ((s.length:Int)=0)
 case true=>
  have:s=[]:=hY (by have:=aM b0;omega);have e1:decide (1<((0:Nat):Int))=false:=by decide
  simp only[go_sem,seval];refine aK ([]:List UInt8) (λe r env hp=>env=oK (.str s) (.int .i64 1)) ?_ ?_ ?_;rfl;rintro env hp rfl;subst this;simp only[qD,oK,go_sem,seval];rfl;rintro e x r env hp he _;simp at he
 case false=>
 obtain⟨c,t,hs⟩:∃c t,s=c::t:=by
  cases s with
  |nil=>simp at b0
  |cons c t=>exact⟨c,t,rfl⟩
 have hg0:s[0]?=some c:=by rw[hs];rfl
 have hlt:s.length=t.length+1:=by rw[hs];rfl
 have hev:gL s=(decide (s.length<=30)&&(decide (65<=c.toNat)&&decide (c.toNat<=90))&&t.all bL):=by rw[hs];rfl
 simp only[go_sem,seval];refine aK t (λe r env hp=>env=oK (.str s) (.int .i64 ((e.length+1:Nat):Int))/\t.all bL=r.all bL) ?_ ?_ ?_;exact⟨rfl,rfl⟩
 ·rintro env hp ⟨rfl,hI⟩;have hI':t.all bL=true:=by rw[hI];rfl
  rw[hev,hI',Bool.and_true];have hex:decide (((t.length+1:Nat):Int)<(s.length:Int))=false:=by simp;omega
  have f1:decide (1<=(s.length:Int))=true:=by simp;omega
  cases b1:decide ((s.length:Int)<=30)
  case false=>
   have:¬s.length<=30:=by have:=bH b1;omega
   simp only[qD,oK,hex,f1,b1,go_sem,seval];simp[this]
  case true=>
  have h30:s.length<=30:=by have:=aM b1;omega
  cases b2:decide (65<=(c.toNat:Int))
  case false=>
   have:¬ 65<=c.toNat:=by have:=bH b2;omega
   simp only[qD,oK,hex,f1,b1,hg0,b2,go_sem,seval];simp[this]
  case true=>
  have h65:65<=c.toNat:=by have:=aM b2;omega
  have hc:decide ((c.toNat:Int)<=90)=decide (c.toNat<=90):=by rw[dC];omega
  simp only[qD,oK,hex,f1,b1,hg0,b2,hc,go_sem,seval];simp[h30,h65]
 ·rintro e x r env hp he ⟨rfl,hI⟩;have hse:s=(c::e)++x::r:=by rw[hs,he];rfl
  have k1:s[e.length+1]?=some x:=by rw[hse];simp
  have k2:decide (((e.length+1:Nat):Int)<(s.length:Int))=true:=by rw[hse];simp;omega
  have k3:wr .i64 (((e.length+1:Nat):Int)+1)=(((e++[x]).length+1:Nat):Int):=by simp only[big]at hb;rw[aO (by omega) (by rw[hse]at hb;simp at hb;omega)];simp
  cases b1:decide ((x.toNat:Int)<48)
  case true=>
   have hx:bL x=false:=by
    have:¬ 48<=x.toNat:=by have:=aM b1;omega
    simp[bL,this]
   simp only[qD,oK,k1,k2,b1,go_sem,seval];rw[hev,hI];simp[hx]
  case false=>
  cases b2:decide (57<(x.toNat:Int))
  case true=>
   have hx:bL x=false:=by
    have:¬x.toNat<=57:=by have:=aM b2;omega
    simp[bL,this]
   simp only[qD,oK,k1,k2,b1,b2,go_sem,seval];rw[hev,hI];simp[hx]
  case false=>
  have hx:bL x=true:=by have h1:=bH b1;have h2:=bH b2;simp only[bL,aG,aY];omega
  simp only[qD,oK,k1,k2,b1,b2,k3,go_sem,seval];refine⟨rfl,?_⟩;rw[hI];simp[hx]
theorem c116(hf:pg.fs 116=some OS)(h160:pg.fs 160=some HQ)(s:Str):Ret pg 116 [.str s.bs] (.bool (decide (s.bs=[105,110,116])||decide (s.bs=[98,111,111,108])||gL s.bs)):=by
 refine Ret.ofX hf ?_;unfold OS;cases b1:decide (s.bs=[105,110,116])
 case true=>simp only[b1,go_sem,seval]
 case false=>
 cases b2:decide (s.bs=[98,111,111,108])
 case true=>simp only[b1,b2,go_sem,seval]
 case false=>
 simp only[b1,b2,go_sem,seval];refine aB (c160 h160 s.bs s.ok) ?_;simp only[go_sem,seval]
theorem c117(hf:pg.fs 117=some OQ)(h54:∀l:Lin,Ret pg 54 [l.av] (.bool (fE l)))(h77:∀s:Str,Ret pg 77 [.str s.bs] (.bool (gR s.bs)))(sh:bZ):Ret pg 117 [sh.av] (.bool (nA sh)):=by
 refine Ret.ofX hf ?_;unfold OQ;have hdb:=sh.dims.ok;simp only[go_sem,seval]
 refine aK sh.dims.es (λd r env hp=>hp.get 1=some (0,.blk [.str sh.row.bs,.sl sh.dims.nl (sh.dims.es.map Lin.av) sh.dims.cl] 2 true true false) /\
  env=yS (.pt 1 0 0) (.int .i64 d.length)/\sh.dims.es.all fE=r.all fE) ?_ ?_ ?_
 exact⟨rfl,rfl,rfl⟩
 ·rintro env hp ⟨h1,rfl,hq⟩;have hq':sh.dims.es.all fE=true:=by rw[hq];rfl
  have f1:decide ((sh.dims.es.length:Int)<(sh.dims.es.length:Int))=false:=by simp
  have hso:nA sh=((decide (sh.row.bs=[])||gR sh.row.bs)&&decide ((sh.dims.es.length:Int)<=6)):=by simp[nA,hq']
  rw[hso];cases b1:decide ((sh.dims.es.length:Int)<=6)
  case false=>simp only[yR,yS,h1,f1,b1,go_sem,seval]
  case true=>
  cases b2:decide (sh.row.bs=[])
  case true=>simp only[yR,yS,h1,f1,b1,b2,go_sem,seval]
  case false=>
  simp only[yR,yS,h1,f1,b1,b2,go_sem,seval];refine aB (h77 sh.row) ?_;simp only[go_sem,seval]
 rintro d x r env hp hes ⟨h1,rfl,hq⟩;have hsb:(d++x::r).length<=big:=by rw[<-hes];exact hdb
 have hget:sh.dims.es[d.length]?=some x:=by rw[hes];simp
 have e1:decide ((d.length:Int)<(sh.dims.es.length:Int))=true:=by rw[hes];simp;omega
 have e2:((d.length:Int)<(sh.dims.es.length:Int))=True:=eq_true (by rw[hes];simp;omega);simp only[yR,yS,h1,e1,e2,hget,go_sem,seval];refine aB (h54 x) ?_;simp only[go_sem,seval];cases hx:fE x
 case false=>simp only[go_sem,seval];simp[nA,hq,hx]
 case true=>simp only[aW hsb,go_sem,seval];refine⟨h1,rfl,?_⟩;rw[hq];simp[hx]
theorem c79(hf:pg.fs 79=some aAP)(h116:∀s:Str,Ret pg 116 [.str s.bs] (.bool (decide (s.bs=[105,110,116])||decide (s.bs=[98,111,111,108])||gL s.bs)))(h117:∀sh:bZ,Ret pg 117 [sh.av] (.bool (nA sh)))(t:Typ):Ret pg 79 [t.av] (.bool (sS t)):=by
 refine Ret.ofX hf ?_;unfold aAP;simp only[go_sem,seval];refine aB (h116 t.elem) ?_;cases b1:(decide (t.elem.bs=[105,110,116])||decide (t.elem.bs=[98,111,111,108])||gL t.elem.bs)
 case false=>simp only[b1,go_sem,seval];simp[sS,b1]
 case true=>simp only[b1,go_sem,seval];have a:=h117 t.shape;rw[bZ.avc]at a;refine aB (a) ?_;simp only[go_sem,seval];simp[sS,b1]
theorem c78(hf:pg.fs 78=some W7)(s:List UInt8)(hb:s.length<=big):Ret pg 78 [.str s] (.bool (BZ s)):=by
 refine Ret.ofX hf ?_;unfold W7;cases b0:decide ((s.length:Int)=0)
 case true=>have:s=[]:=hY (by have:=aM b0;omega);simp only[go_sem,seval];refine aK ([]:List UInt8) (λe r env hp=>env=sJ (.str s) (.int .i64 1)) ?_ ?_ ?_;rfl;rintro env hp rfl;subst this;simp only[uQ,sJ,go_sem,seval];rfl;rintro e x r env hp he _;simp at he
 case false=>
 obtain⟨c,t,hs⟩:∃c t,s=c::t:=by
  cases s with
  |nil=>simp at b0
  |cons c t=>exact⟨c,t,rfl⟩
 have hg0:s[0]?=some c:=by rw[hs];rfl
 have hlt:s.length=t.length+1:=by rw[hs];rfl
 have hev:BZ s=(decide (0<t.length)&&((decide ((c.toNat:Int)=105)||decide ((c.toNat:Int)=106))&&t.all bL)):=by
  rw[hs];cases t with
  |nil=>rfl
  |cons d u=>simp[BZ]
 simp only[go_sem,seval];refine aK t (λe r env hp=>env=sJ (.str s) (.int .i64 ((e.length+1:Nat):Int))/\t.all bL=r.all bL) ?_ ?_ ?_;exact⟨rfl,rfl⟩
 ·rintro env hp ⟨rfl,hI⟩;have hI':t.all bL=true:=by rw[hI];rfl
  rw[hev,hI',Bool.and_true];have hex:decide (((t.length+1:Nat):Int)<(s.length:Int))=false:=by simp;omega
  cases b1:decide (1<(s.length:Int))
  case false=>
   have:¬ 0<t.length:=by have:=bH b1;omega
   have h0:decide (0<t.length)=false:=decide_eq_false this;rw[h0];simp only[uQ,sJ,hex,b1,go_sem,seval]
  case true=>
  have:0<t.length:=by have:=aM b1;omega
  have h0:decide (0<t.length)=true:=decide_eq_true this;rw[h0];cases b2:decide ((c.toNat:Int)=105);simp only[uQ,sJ,hex,b1,hg0,b2,go_sem,seval];simp only[uQ,sJ,hex,b1,hg0,b2,go_sem,seval]
 ·rintro e x r env hp he ⟨rfl,hI⟩;have hse:s=(c::e)++x::r:=by rw[hs,he];rfl
  have k1:s[e.length+1]?=some x:=by rw[hse];simp
  have k2:decide (((e.length+1:Nat):Int)<(s.length:Int))=true:=by rw[hse];simp;omega
  have k3:wr .i64 (((e.length+1:Nat):Int)+1)=(((e++[x]).length+1:Nat):Int):=by simp only[big]at hb;rw[aO (by omega) (by rw[hse]at hb;simp at hb;omega)];simp
  cases b1:decide ((x.toNat:Int)<48)
  case true=>
   have hx:bL x=false:=by
    have:¬ 48<=x.toNat:=by have:=aM b1;omega
    simp[bL,this]
   simp only[uQ,sJ,k1,k2,b1,go_sem,seval];rw[hev,hI];simp[hx]
  case false=>
  cases b2:decide (57<(x.toNat:Int))
  case true=>
   have hx:bL x=false:=by
    have:¬x.toNat<=57:=by have:=aM b2;omega
    simp[bL,this]
   simp only[uQ,sJ,k1,k2,b1,b2,go_sem,seval];rw[hev,hI];simp[hx]
  case false=>
  have hx:bL x=true:=by have h1:=bH b1;have h2:=bH b2;simp only[bL,aG,aY];omega
  simp only[uQ,sJ,k1,k2,b1,b2,k3,go_sem,seval];refine⟨rfl,?_⟩;rw[hI];simp[hx]
end
end
section
section
variable{pg:Pg}
end
end
section
theorem gZ{α : Type}{q : α -> α -> Bool}(h:∀x,q x x=true):∀l:List α,eqL q l l=true
 |[]=>by simp[eqL]
 |x::r=>by simp[eqL,h x,gZ h r]
theorem G4{α : Type}{q : α -> α -> Bool}:∀l:List α,(∀x∈l,q x x=true)->eqL q l l=true
 |[],_=>by simp[eqL]
 |x::r,h=>by simp[eqL,h x (by simp),G4 r (λy hy=>h y (by simp[hy]))]
theorem NG(x:cL):i8 x x=true:=by simp[i8]
theorem mX(x:Lin):cC x x=true:=by simp[cC,gZ NG]
theorem pS(x:aL):gC x x=true:=by simp[gC,gZ]
theorem tU:∀p:aC,eN p p=true:=
 aC.ind' λp ih=>by rw[qY,mS,G4 p.kids ih,gZ mX,gZ pS];simp
theorem qA{α β : Type}{q : α -> β -> Bool}(l:List α):eqL q l []=decide ((l.length:Int)=0):=by
 cases l with
 |nil=>simp[eqL]
 |cons x r=>simp[eqL];omega
def iE(α : Type):Sl α:=⟨true,[],true,by simp[big]⟩
def xO(x:aH):aH:=
 ⟨x.kind,x.value,x.space,x.body,if x.kind=2 then x.fn else iE aL,if x.kind=3 then x.source else 0,if x.kind=3 then x.index else CR,if x.kind=3 then x.check else 0⟩
def lC(a b:aH):Bool:=
 decide (a.kind=b.kind)&&decide (a.value=b.value)&&decide (a.source=b.source)&&decide (a.check=b.check)&&eqL cC a.space.es b.space.es&&eN a.body b.body&&eN a.index b.index&&eqL gC a.fn.es b.fn.es
theorem MT(x:aH):lC x (xO x)=((if decide (x.kind=3) then true else !pE x)&&(decide (x.kind=2)||decide ((x.fn.es.length:Int)=0))):=by
 simp only[lC,xO,gZ mX,tU,pE];by_cases h3:x.kind=3;have h2:¬x.kind=2:=by omega
 simp[h3,tU,iE,qA];by_cases h2:x.kind=2;simp[h2,gZ pS];simp[h3,h2,iE,qA,Bool.and_assoc]
def cJ(k:aA)(p:aC)(n:Nat)(th:List Bool):Bool:=
 iK p (fH k.vars.es n) k.values.es.length&&(bM p).all (λv=>bK th v)
def lR(k:aA)(q:aH)(i:Nat):Bool:=
 !decide ((i:Int)=0)&&(match k.list.es[((i:Int)-1).toNat]? with|none=>false|some r=>decide (r.kind=1)&&decide (r.value=q.value))
def lS(k:aA)(q:aH)(th:List Bool)(second:Bool):Bool:=
 !(decide (q.value<k.inputs)||decide ((k.values.es.length:Int)<=q.value))&&(lC q (xO q) &&
 (match k.values.es[q.value.toNat]? with
 |none=>false
 |some t=>
  !mI k.values.es q t &&
  (if decide (q.kind=1) then !bK th q.value&&(eqL cC q.space.es t.shape.dims.es&&cJ k q.body t.shape.dims.es.length th)
  else if decide (q.kind=2) then !bK th q.value&&(decide (0<(t.shape.dims.es.length:Int))&&(eqL cC q.space.es t.shape.dims.es&&(cJ k q.body t.shape.dims.es.length th&&d6 q.fn.es 2)))
  else if decide (q.kind=3) then
   !decide ((t.shape.dims.es.length:Int)=0)&&(eqL cC q.space.es t.shape.dims.es.dropLast&&(!decide (q.check<0)&&(!decide (q.source<0)&&(!decide ((k.values.es.length:Int)<=q.source)&&(bK th q.source &&
   ((bK th q.value==decide (q.source=q.value))&&(!(bK th q.value && !second)&&((match k.values.es[q.source.toNat]? with|none=>false|some u=>iR u t) &&
   (cJ k q.body (t.shape.dims.es.length-1) (th.set q.value.toNat false)&&cJ k q.index (t.shape.dims.es.length-1) (th.set q.value.toNat false))))))))))
  else false)))
theorem PK{th:List Bool}{v a:Int}(hv:0<=v)(ha:0<=a):bK (th.set v.toNat false) a=(bK th a && !decide (a=v)):=by
 simp only[bK,List.getElem?_set];by_cases h:a=v;subst h;by_cases h2:a.toNat<th.length;simp[h2];simp[h2];have h1:¬v.toNat=a.toNat:=by omega
 simp[h1,h]
theorem aBT{l m:List Int}{p q:Int->Bool}(hm:∀a,a∈l↔a∈m)(h:∀a∈l,p a = !q a):l.all p = !m.any q:=by rw[Bool.eq_iff_iff];simp only[eG,fB,List.any_eq_false];constructor;intro g a ha hq;have:=g a ((hm a).2 ha);rw[h a ((hm a).2 ha),hq]at this;cases this;intro g a ha;rw[h a ha];have:=g a ((hm a).1 ha);simpa using this
theorem A2(k:aA)(p:aC)(n:Nat)(th th':List Bool)(nt:Int)(h:∀a,0<=a->bK th' a=(bK th a && !decide (a=nt))):cJ k p n th'=fD k th p n nt:=by simp only[cJ,fD];cases hp:iK p (fH k.vars.es n) k.values.es.length;rfl;simp only[Bool.true_and];simp only[iK,aG]at hp;refine aBT (λa=>?_) (λa ha=>?_);rw[jY,cE,mW,oP];rw[jY]at ha;obtain⟨h4,h5⟩:=pN _ p _ hp.2 a ha;rw[h a h4];cases bK th a<;>simp
theorem MV(k:aA)(q:aH)(i:Nat):I1 k q i=(!decide (q.kind=3) || !decide (q.source=q.value) || !lR k q i):=by
 simp only[I1,lR];cases h1:decide ((i:Int)=0);simp only[Bool.or_false,Bool.not_false,Bool.true_and];cases h2:k.list.es[((i:Int)-1).toNat]? with
 |none=>simp
 |some r=>dsimp only;cases decide (r.kind=1)<;>cases decide (r.value=q.value)<;>simp
 simp
theorem L9(k:aA)(q:aH)(th:List Bool)(i:Nat)(hin:0<=k.inputs):lS k q th (lR k q i)=cA k th q i:=by
 simp only[lS,cA,MT,MV,wS];cases o1:decide (q.value<k.inputs)
 case true=>simp
 cases o2:decide ((k.values.es.length:Int)<=q.value)
 case true=>simp
 have hv:0<=q.value:=by simp at o1;omega
 cases ht:k.values.es[q.value.toNat]? with
 |none=>simp
 |some t=>
 simp only[Bool.or_false,Bool.not_false,Bool.true_and,Bool.false_or];cases hb:mI k.values.es q t
 case true=>simp
 simp only[Bool.not_false,Bool.true_and];have key:∀p n,bK th q.value=false->cJ k p n th=fD k th p n (-1):=by
  intro p n _;refine A2 k p n th th (-1) (λa ha=>?_);have:¬a = -1:=by omega
  simp[this]
 have key3:∀p n,cJ k p n (th.set q.value.toNat false)=fD k th p n (if bK th q.value then q.value else -1):=by
  intro p n;refine A2 k p n th _ _ (λa ha=>?_);rw[PK hv ha];cases hto:bK th q.value;by_cases hav:a=q.value;subst hav;simp[hto];have:¬a = -1:=by omega
  simp[hav,this];simp
 by_cases h3:q.kind=3;have h1:¬q.kind=1:=by omega
 have h2:¬q.kind=2:=by omega
 simp only[h1,h2,h3,decide_true,decide_false,if_true,if_false,Bool.true_and,Bool.false_or,Bool.not_true,sW,vT,xY,key3,Bool.false_eq_true];simp only[show ∀n:Nat,((n:Int)=0)=(n=0) from λn=>by simp];have hfn:decide (0<(q.fn.es.length:Int)) = !decide (q.fn.es.length=0):=by by_cases h:q.fn.es.length=0<;>simp[h];omega
 rw[hfn,List.length_dropLast];cases decide (q.fn.es.length=0);simp;simp only[Bool.true_and,Bool.not_true,Bool.or_false];cases decide (t.shape.dims.es.length=0)
 case true=>simp
 cases hc:decide (q.check<0)
 case true=>simp
 cases s1:decide (q.source<0)
 case true=>simp
 cases s2:decide ((k.values.es.length:Int)<=q.source)
 case true=>simp
 cases s3:bK th q.source
 case false=>simp
 simp only[Bool.not_false,Bool.true_and,Bool.or_false,Bool.not_true,Bool.false_or];cases hsv:decide (q.source=q.value);cases hto:bK th q.value;simp only[beq_self_eq_true,Bool.true_and,Bool.false_and,Bool.not_false,Bool.false_eq_true,if_false];cases k.values.es[q.source.toNat]? with
 |none=>simp
 |some u=>dsimp only;cases iR u t<;>simp
 simp;have hsv':q.source=q.value:=by simpa using hsv
 rw[hsv']at s3 ⊢;simp only[s3,beq_self_eq_true,Bool.true_and,Bool.not_true,Bool.false_or,if_true,ht];cases lR k q i<;>cases iR t t<;>simp;simp only[h3,decide_false,if_false,Bool.false_eq_true,Bool.not_false,Bool.true_or,Bool.and_true,sW,vT];cases hpl:pE q
 case true=>simp
 have hck:decide (q.check<0)=false:=by simp only[pE,Bool.or_eq_false_iff,Bool.not_eq_false',aY]at hpl;simp[hpl.1.2]
 simp only[hck,Bool.not_false,Bool.true_and];by_cases h1:q.kind=1;have h2:¬q.kind=2:=by omega
 simp only[h1,h2,decide_true,decide_false,if_true,Bool.false_or];cases hto:bK th q.value;rw[key _ _ hto];simp only[Bool.false_eq_true,if_false];cases decide ((q.fn.es.length:Int)=0)<;>simp;simp;by_cases h2:q.kind=2;simp only[h1,h2,decide_true,decide_false,if_true,if_false,Bool.true_or,Bool.false_eq_true,Bool.true_and];cases hto:bK th q.value;rw[key _ _ hto];simp only[Bool.false_eq_true,if_false];cases decide (0<(t.shape.dims.es.length:Int))<;>cases eqL cC q.space.es t.shape.dims.es<;>cases d6 q.fn.es 2<;>simp;simp;simp[h1,h2]
end
section
theorem cX{α : Type}{es d r:List α}{x : α}(hes:es=d++x::r)(hb:es.length<=big) :
  es[d.length]?=some x/\decide ((d.length:Int)<(es.length:Int))=true/\((d.length:Int)<(es.length:Int))=True/\wr .i64 ((d.length:Int)+1)=((d++[x]).length:Int):=by
 have h:d.length<es.length:=by rw[hes];simp
 refine⟨by rw[hes];simp,by simp;omega,eq_true (by omega),aW (r:=r) (by rw[<-hes];exact hb)⟩
theorem bA(n:Nat):decide ((n:Int)<(n:Int))=false:=by simp
theorem GJ{α β : Type}{q : α -> β -> Bool}{es d r:List α}{x : α}{es':List β}(hes:es=d++x::r)(hl:es.length=es'.length) :
  ∃y,es'[d.length]?=some y/\decide ((d.length:Int)<(es'.length:Int))=true/\((d.length:Int)<(es'.length:Int))=True/\eqL q (x::r) (es'.drop d.length)=(q x y&&eqL q r (es'.drop (d++[x]).length)):=by
 have h:d.length<es'.length:=by rw[<-hl,hes];simp
 refine⟨es'[d.length],aX h,by simp;omega,eq_true (by omega),?_⟩;rw[kY h,eqL];simp
theorem oQ{α β : Type}{q : α -> β -> Bool}{es:List α}{es':List β}(hl:es.length=es'.length):eqL q [] (es'.drop es.length)=true:=by rw[hl,List.drop_length];simp[eqL]
theorem zZ{α β : Type}{q : α -> β -> Bool}{a:List α}{b:List β}(h:decide ((a.length:Int)=(b.length:Int))=false):eqL q a b=false:=by cases he:eqL q a b;rfl;have:=CC he;simp[this]at h
theorem rK:∀s:List UInt8,Op.bytesLess s s=false
 |[]=>rfl
 |c::r=>by simp only[Op.bytesLess,rK r,Bool.and_false,Bool.or_false,fL];exact UInt8.lt_irrefl c
section
variable{pg:Pg}
theorem c194(hf:pg.fs 194=some EY)(nl cl:Bool)(vars:List Str)(hb:vars.length<=big)(s:List UInt8):Ret pg 194 [.sl nl (vars.map Str.av) cl,.str s] (.bool (lD vars s)):=by
 refine Ret.ofX hf ?_;unfold EY;simp only[go_sem,seval];refine aK vars (λd r env hp=>env=CL (.sl nl (vars.map Str.av) cl) (.str s) (.int .i64 d.length)/\lD vars s=lD r s) ?_ ?_ ?_;exact⟨rfl,rfl⟩;rintro env hp ⟨rfl,hI⟩;simp only[CK,CL,bA,go_sem,seval];rw[hI];rfl;rintro d x r env hp hes ⟨rfl,hI⟩;obtain⟨hget,e1,e2,ew⟩:=cX hes hb;have hsym:decide (x.bs=s)=decide (s=x.bs):=by rw[dC];exact eq_comm
 cases hx:decide (s=x.bs);simp only[CK,CL,e1,e2,hget,hsym,hx,ew,go_sem,seval];refine⟨rfl,?_⟩;rw[hI];simp[lD,hx];simp only[CK,CL,e1,e2,hget,hsym,hx,go_sem,seval];rw[hI];simp[lD,hx]
theorem c193(hf:pg.fs 193=some N8)(h54:∀l:Lin,Ret pg 54 [l.av] (.bool (fE l)))(h194:pg.fs 194=some EY)(nl cl:Bool)(ls:List Lin)(hb:ls.length<=big)(nl' cl':Bool)(vars:List Str)(hb':vars.length<=big) :
  Ret pg 193 [.sl nl (ls.map Lin.av) cl,.sl nl' (vars.map Str.av) cl'] (.bool (cU ls vars)):=by
 refine Ret.ofX hf ?_;unfold N8;simp only[go_sem,seval];refine aK ls (λd r env hp=>env=KN (.sl nl (ls.map Lin.av) cl) (.sl nl' (vars.map Str.av) cl') (.int .i64 d.length)/\cU ls vars=cU r vars) ?_ ?_ ?_;exact⟨rfl,rfl⟩;rintro env hp ⟨rfl,hI⟩;simp only[KL,KN,bA,go_sem,seval];rw[hI];rfl;rintro d l r env hp hes ⟨rfl,hI⟩;rw[A7]at hI;obtain⟨hget,e1,e2,ew⟩:=cX hes hb;rw[hI];clear hI;simp only[KL,KN,hget,e1,e2,go_sem,seval];refine aB (h54 l) ?_;simp only[go_sem,seval];cases hl:fE l
 case false=>simp only[go_sem,seval]
 simp only[go_sem,seval];have hlb:=l.ts.ok;refine aK l.ts.es (λd2 r2 env hp=>env=KO (.sl nl (ls.map Lin.av) cl) (.sl nl' (vars.map Str.av) cl') (.int .i64 d.length) (.int .i64 d2.length)/\l.ts.es.all (λx=>lD vars x.v.bs)=r2.all (λx=>lD vars x.v.bs)) ?_ ?_ ?_;exact⟨rfl,rfl⟩;rintro env hp ⟨rfl,hI⟩;simp only[KM,KO,hget,e2,bA,ew,go_sem,seval];refine⟨rfl,?_⟩;rw[hI];simp;rintro d2 x r2 env hp he2 ⟨rfl,hI⟩;obtain⟨hget2,g1,g2,gw⟩:=cX he2 hlb;rw[hI];clear hI;simp only[KM,KO,hget,e2,g1,g2,hget2,go_sem,seval];refine aB (c194 h194 nl' cl' vars hb' x.v.bs) ?_;simp only[go_sem,seval];cases hv:lD vars x.v.bs;simp only[hv,go_sem,seval];simp only[hv,gw,go_sem,seval];rfl
theorem aFK(hf:pg.fs 124=some vW)(n:Int):Ret pg 124 [.str [105,110,116],.int .i64 n] (.bool (nC n)):=by
 refine Ret.ofX hf ?_;unfold vW
 repeat' (first|simp only[*,go_sem,seval]|refine aR (λ_=>?_) (λ_=>?_)|refine aU (λ_=>?_) (λ_=>?_)|refine aQ ?_)
 all_goals (simp_all [nC])
 all_goals omega
theorem aJX(hf:pg.fs 124=some vW)(n:Int):Ret pg 124 [.str [98,111,111,108],.int .i64 n] (.bool (sG n)):=by
 refine Ret.ofX hf ?_;unfold vW
 repeat' (first|simp only[*,go_sem,seval]|refine aR (λ_=>?_) (λ_=>?_)|refine aU (λ_=>?_) (λ_=>?_)|refine aQ ?_)
 all_goals (simp_all [sG])
def aJL(a b:Lin)(r:AV):Prop:=∃c:Int,r = .int .i64 c/\decide (c=0)=cC a b
theorem oE{a b:Lin}(c:Int)(h:decide (c=0)=cC a b):aJL a b (.int .i64 c):=⟨c,rfl,h⟩
theorem TX{α β : Type}{a:List α}{b:List β}{d r:List (α×β)}{p : α×β}(h:a.zip b=d++p::r) :
  a[d.length]?=some p.1/\b[d.length]?=some p.2/\d.length<a.length/\d.length<b.length:=by
 have h1:(a.zip b)[d.length]?=some p:=by rw[h];simp
 rw[List.getElem?_zip_eq_some]at h1;obtain⟨h2,h3⟩:=h1;exact⟨h2,h3,(cD.1 h2).1,(cD.1 h3).1⟩
theorem c191(hf:pg.fs 191=some EZ)(a b:Lin):bE pg 191 [a.av,b.av] (aJL a b):=by
 refine bE.ofX hf ?_;unfold EZ;simp only[go_sem,seval];have hab:=a.ts.ok;have hbb:=b.ts.ok
 refine aK (a.ts.es.zip b.ts.es) (λd r env hp=>hp.get 1=some (0,.blk [.int .i64 a.c,.sl a.ts.nl (a.ts.es.map cL.av) a.ts.cl] 2 true true false)/\hp.get 5=some (0,.blk [.int .i64 b.c,.sl b.ts.nl (b.ts.es.map cL.av) b.ts.cl] 2 true true false) /\
  env=mB (.pt 1 0 0) (.pt 5 0 0) (.int .i64 d.length)/\eqL i8 a.ts.es b.ts.es=eqL i8 (a.ts.es.drop d.length) (b.ts.es.drop d.length)) ?_ ?_ ?_
 exact⟨rfl,rfl,rfl,rfl⟩;rintro env hp ⟨g1,g5,rfl,hI⟩;rw[List.length_zip]at hI ⊢;have hl:cC a b=(decide (a.c=b.c)&&eqL i8 (a.ts.es.drop (min a.ts.es.length b.ts.es.length)) (b.ts.es.drop (min a.ts.es.length b.ts.es.length))):=by rw[cC,hI]
 clear hI;generalize hm:min a.ts.es.length b.ts.es.length=m at hl ⊢;rcases Nat.lt_trichotomy a.ts.es.length b.ts.es.length with h|h|h;have hm':m=a.ts.es.length:=by omega
 subst hm';have f1:decide ((a.ts.es.length:Int)<(b.ts.es.length:Int))=true:=by simp;omega
 have hz:cC a b=false:=by
  rw[hl,List.drop_length];have:(b.ts.es.drop a.ts.es.length)≠[]:=by simp[List.drop_eq_nil_iff];omega
  cases hd:b.ts.es.drop a.ts.es.length with
  |nil=>exact absurd hd this
  |cons y s=>simp[eqL]
 simp only[mA,mB,g1,g5,bA,f1,go_sem,seval];refine oE _ ?_;rw[hz];rfl
 ·have hm':m=a.ts.es.length:=by omega
  subst hm';have f0:decide ((b.ts.es.length:Int)<(a.ts.es.length:Int))=false:=by simp;omega
  have f1:decide ((a.ts.es.length:Int)<(b.ts.es.length:Int))=false:=by simp;omega
  have f2:decide ((a.ts.es.length:Int)=(b.ts.es.length:Int))=true:=by simp;omega
  have hz:cC a b=decide (a.c=b.c):=by rw[hl,List.drop_length,h,List.drop_length];simp[eqL]
  cases c1:decide (a.c<b.c)
  case true=>
   simp only[mA,mB,g1,g5,bA,f0,f1,f2,c1,go_sem,seval];refine oE _ ?_;have:¬a.c=b.c:=by have:=aM c1;omega
   rw[hz,decide_eq_false this];rfl
  case false=>
  cases c2:decide (b.c<a.c)
  case true=>
   simp only[mA,mB,g1,g5,bA,f0,f1,f2,c1,c2,go_sem,seval];refine oE _ ?_;have:¬a.c=b.c:=by have:=aM c2;omega
   rw[hz,decide_eq_false this];rfl
  case false=>
   simp only[mA,mB,g1,g5,bA,f0,f1,f2,c1,c2,go_sem,seval];refine oE _ ?_;have:a.c=b.c:=by have:=bH c2;have:=bH c1;omega
   rw[hz,decide_eq_true this];rfl
 have hm':m=b.ts.es.length:=by omega
 subst hm';have f0:decide ((b.ts.es.length:Int)<(a.ts.es.length:Int))=true:=by simp;omega
 have f1:decide ((a.ts.es.length:Int)<(b.ts.es.length:Int))=false:=by simp;omega
 have f2:decide ((a.ts.es.length:Int)=(b.ts.es.length:Int))=false:=by simp;omega
 have hz:cC a b=false:=by
  rw[hl,List.drop_length];have:(a.ts.es.drop b.ts.es.length)≠[]:=by simp[List.drop_eq_nil_iff];omega
  cases hd:a.ts.es.drop b.ts.es.length with
  |nil=>exact absurd hd this
  |cons y s=>simp[eqL]
 simp only[mA,mB,g1,g5,bA,f0,f1,f2,go_sem,seval];refine oE _ ?_;rw[hz];rfl
 ·rintro d ⟨x,y⟩ r env hp hes ⟨g1,g5,rfl,hI⟩;obtain⟨ga,gb,la,lb⟩:=TX hes;have e1:decide ((d.length:Int)<(a.ts.es.length:Int))=true:=by simp;omega
  have e2:((d.length:Int)<(a.ts.es.length:Int))=True:=eq_true (by omega);have e3:decide ((d.length:Int)<(b.ts.es.length:Int))=true:=by simp;omega
  have e4:((d.length:Int)<(b.ts.es.length:Int))=True:=eq_true (by omega);have ew:wr .i64 ((d.length:Int)+1)=((d++[(x,y)]).length:Int):=by simp only[big]at hab;rw[aO (by omega) (by omega)];simp
  have hst:eqL i8 a.ts.es b.ts.es=(i8 x y&&eqL i8 (a.ts.es.drop (d++[(x,y)]).length) (b.ts.es.drop (d++[(x,y)]).length)):=by rw[hI,kY la,kY lb,eqL];rw[aX la]at ga;rw[aX lb]at gb;cases ga;cases gb;simp
  have hlin:i8 x y=false->cC a b=false:=by intro h;rw[cC,hst,h];simp
  clear hI;cases c1:Op.bytesLess x.v.bs y.v.bs
  case true=>
   simp only[mA,mB,g1,g5,e1,e2,e3,e4,ga,gb,c1,go_sem,seval];refine aQ ?_;refine oE _ ?_;have:¬x.v.bs=y.v.bs:=by intro h;rw[h,rK]at c1;cases c1
   rw[hlin (by simp[i8,this])];rfl
  case false=>
  cases c2:decide (x.v.bs=y.v.bs)
  case false=>simp only[mA,mB,g1,g5,e1,e2,e3,e4,ga,gb,c1,c2,go_sem,seval];refine aQ ?_;refine oE _ ?_;rw[hlin (by simp[i8,c2])];rfl
  case true=>
  cases c3:decide (x.c<y.c)
  case true=>
   simp only[mA,mB,g1,g5,e1,e2,e3,e4,ga,gb,c1,c2,c3,go_sem,seval];refine aQ ?_;refine oE _ ?_;have:¬x.c=y.c:=by have:=aM c3;omega
   rw[hlin (by simp[i8,this])];rfl
  case false=>
  cases c4:decide (x.c=y.c)
  case false=>simp only[mA,mB,g1,g5,e1,e2,e3,e4,ga,gb,c1,c2,c3,c4,go_sem,seval];refine aQ ?_;refine oE _ ?_;rw[hlin (by simp[i8,c4])];rfl
  case true=>simp only[mA,mB,g1,g5,e1,e2,e3,e4,ga,gb,c1,c2,c3,c4,go_sem,seval];rw[ew];refine⟨by kernel_rfl,rfl,?_⟩;rw[hst];simp[i8,c2,c4]
theorem c162(hf:pg.fs 162=some HO)(h191:pg.fs 191=some EZ)(a b:Lin):Ret pg 162 [a.av,b.av] (.bool (cC a b)):=by obtain⟨r,hr,c,rfl,hc⟩:=c191 h191 a b;rw[Lin.avc,Lin.avc]at hr;refine Ret.ofX hf ?_;unfold HO;simp only[go_sem,seval];refine aB (hr) ?_;simp only[go_sem,seval];rw[<-hc]
theorem c121(hf:pg.fs 121=some ON)(h162:pg.fs 162=some HO)(h191:pg.fs 191=some EZ)(a b:bZ):Ret pg 121 [a.av,b.av] (.bool (gN a b)):=by
 refine Ret.ofX hf ?_;unfold ON;have hab:=a.dims.ok;cases b1:decide (a.row.bs=b.row.bs)
 case false=>simp only[b1,go_sem,seval];simp[gN,b1]
 case true=>
 cases b2:decide ((a.dims.es.length:Int)=(b.dims.es.length:Int))
 case false=>simp only[b1,b2,go_sem,seval];simp[gN,b1,zZ b2]
 case true=>
 have hl:a.dims.es.length=b.dims.es.length:=by have:=aM b2;omega
 have hs:gN a b=eqL cC a.dims.es b.dims.es:=by simp[gN,b1]
 rw[hs];simp only[b1,b2,go_sem,seval]
 refine aK a.dims.es (λd r env hp=>hp.get 1=some (0,.blk [.str a.row.bs,.sl a.dims.nl (a.dims.es.map Lin.av) a.dims.cl] 2 true true false)/\hp.get 5=some (0,.blk [.str b.row.bs,.sl b.dims.nl (b.dims.es.map Lin.av) b.dims.cl] 2 true true false) /\
  env=CQ (.pt 1 0 0) (.pt 5 0 0) (.int .i64 d.length)/\eqL cC a.dims.es b.dims.es=eqL cC r (b.dims.es.drop d.length)) ?_ ?_ ?_
 exact⟨rfl,rfl,rfl,rfl⟩;rintro env hp ⟨g1,g5,rfl,hI⟩;simp only[CP,CQ,g1,bA,go_sem,seval];rw[hI,oQ hl];rintro d x r env hp hes ⟨g1,g5,rfl,hI⟩;obtain⟨hget,e1,e2,ew⟩:=cX hes hab;obtain⟨y,gy,f1,f2,hq⟩:=GJ (q:=cC) hes hl;rw[hq]at hI;rw[hI];clear hI;have a1:=c162 h162 h191 x y;rw[Lin.avc,Lin.avc]at a1;cases hxy:cC x y;simp only[CP,CQ,g1,g5,hget,e1,e2,gy,f1,f2,go_sem,seval];refine aB a1 ?_;simp only[hxy,go_sem,seval];kernel_rfl;simp only[CP,CQ,g1,g5,hget,e1,e2,gy,f1,f2,go_sem,seval];refine aB a1 ?_;simp only[hxy,ew,go_sem,seval];exact⟨by kernel_rfl,g1,g5,rfl⟩
end
end
section
section
variable{pg:Pg}
end
end
section
theorem T9(l:List Sp)(i:Nat)(x:Sp)(h:l[i]?=some x):(0+i*2+2<=(bF l).length)=True/\List.take 2 (List.drop (0+i*2) (bF l))=[.int .i64 x.1,.int .i64 x.2]:=by obtain⟨hi,hx⟩:=cD.1 h;have hl:=fA l;obtain⟨h1,h2⟩:=zG l i x h;refine⟨eq_true (by omega),?_⟩;rw[Nat.zero_add,kY (by omega),kY (by omega)];rw[aX (by omega)]at h1 h2;simp only[bI]at h1 h2;simp[h1,h2]
section
variable{pg:Pg}
end
end
section
structure aIr(pg:Pg):Prop where
 sort:∀(kb:Nat)(h:Hp)(k e:Nat)(l:List Sp),h.get k=some (e,.blk (bF l) 2 true false false)->l.length<=big->(∀p∈l,rL p=false) ->
  ∃l',l'.Perm l/\(l'.Pairwise λa b=>a.1<=b.1)/\u0 pg 636 [.rf k e 0 l.length l.length,.fn 683 []] kb h (.tup []) (h.put k e (.blk (bF l') 2 true false false))
 sortN:∀(kb:Nat)(h:Hp)(nl cl:Bool),u0 pg 636 [.sl nl [] cl,.fn 683 []] kb h (.tup []) h
open Go.Sort
abbrev GP:={p:Sp // rL p=false}
instance:Inhabited GP:=⟨⟨(0,0),rfl⟩⟩
def cfP(x y:GP):Int:=x.1.1-y.1.1
def FN(x:GP):List Value:=[.int .i64 x.1.1,.int .i64 x.1.2]
theorem ltP(x y:GP):Go.Proofs.ltOf cfP x y=decide (x.1.1<y.1.1):=by
 have h:(x.1.1-y.1.1<0)↔x.1.1<y.1.1:=by omega
 simp only[Go.Proofs.ltOf,cfP];exact dC.2 h
theorem aIy:SWO (Go.Proofs.ltOf cfP) where
 irrefl x:=by rw[ltP];simp
 trans x y z h1 h2:=by rw[ltP]at *;simp at *;omega
 ntrans x y z h1 h2:=by rw[ltP]at *;simp at *;omega
def BX(p:Sp):GP:=if h:rL p=false then ⟨p,h⟩ else default
theorem LJ{p:Sp}(h:rL p=false):(BX p).1=p:=by simp[BX,h]
def gpA(l:List Sp):Array GP:=(l.map BX).toArray
theorem ZY(l:List Sp):(gpA l).size=l.length:=by simp[gpA]
def IX(l:List Sp):Array GP:=pdq (Go.Proofs.ltOf cfP) (gpA l) 0 (gpA l).size (Lib.bitLen (gpA l).size) true true
def V0(l:List Sp):List Sp:=(IX l).toList.map (·.1)
theorem I3:∀{l:List Sp},(∀p∈l,rL p=false)->(l.map BX).map (·.1)=l
 |[],_=>rfl
 |p::l,h=>by simp only[List.map_cons,LJ (h p (by simp)),List.cons.injEq,true_and];exact I3 λq hq=>h q (by simp[hq])
theorem B9{l:List Sp}(h:∀p∈l,rL p=false):(V0 l).Perm l/\(V0 l).Pairwise λa b=>a.1<=b.1:=by
 obtain⟨⟨h1,_,h2⟩,h3⟩:=pdq_sorts (Go.Proofs.ltOf cfP) aIy (gpA l) 0 (gpA l).size (Lib.bitLen (gpA l).size) true true (Nat.zero_le _) (Nat.le_refl _) (Or.inl rfl);rw[<-IX.eq_1]at h1 h2 h3;constructor;have e1:(IX l).extract 0 (gpA l).size=IX l:=by rw[<-h1];simp
 have e2:(gpA l).extract 0 (gpA l).size=gpA l:=by simp
 rw[e1,e2]at h2;have:=h2.map (·.1);have e3:(gpA l).toList.map (·.1)=l:=I3 h;rw[e3]at this;exact this;unfold V0;rw[List.pairwise_map,List.pairwise_iff_getElem];intro i j hi hj hij;have:=h3 i j (Nat.zero_le _) hij (by rw[<-h1];simpa using hj);rw[ltP,getElem!_pos (IX l) i (by simpa using hi),getElem!_pos (IX l) j (by simpa using hj)]at this;have:=bH this;simp only[Array.getElem_toList];omega
def QM(x:Sp):List Sp->List Sp
 |[]=>[x]
 |y::r=>bif decide (x.1<=y.1) then x::y::r else y::QM x r
def UA:List Sp->List Sp
 |[]=>[]
 |x::r=>QM x (UA r)
theorem zT(x:Sp):∀l,(QM x l).Perm (x::l)
 |[]=>List.Perm.refl _
 |y::r=>by rw[QM];cases decide (x.1<=y.1);exact((zT x r).cons y).trans (List.Perm.swap x y r);exact List.Perm.refl _
theorem wD:∀l,(UA l).Perm l
 |[]=>List.Perm.refl _
 |x::r=>(zT x _).trans ((wD r).cons x)
theorem BC(x:Sp):∀l:List Sp,l.Pairwise (λa b=>a.1<=b.1)->(QM x l).Pairwise λa b=>a.1<=b.1
 |[],_=>by simp[QM]
 |y::r,h=>by rw[List.pairwise_cons]at h;rw[QM];cases hd:decide (x.1<=y.1);have hxy:=bH hd;simp only[cond_false,List.pairwise_cons];refine⟨?_,BC x r h.2⟩;intro a ha;rcases List.mem_cons.1 ((zT x r).subset ha) with rfl|ha;omega;exact h.1 a ha;have hxy:=aM hd;simp only[cond_true,List.pairwise_cons];refine⟨?_,h.1,h.2⟩;intro a ha;rcases List.mem_cons.1 ha with rfl|ha;exact hxy;exact Int.le_trans hxy (h.1 a ha)
theorem xF:∀l:List Sp,(UA l).Pairwise λa b=>a.1<=b.1
 |[]=>List.Pairwise.nil
 |x::r=>BC x _ (xF r)
def NC:List Sp->Bool
 |[]=>true
 |x::r=>r.all (λy => !(decide (x.1=y.1)))&&NC r
theorem BL:∀{l:List Sp},NC l=true->(l.map (·.1)).Nodup
 |[],_=>by simp
 |x::r,h=>by simp only[NC,aG,eG,fB,fL]at h;rw[List.map_cons,List.nodup_cons];refine⟨?_,BL h.2⟩;intro hm;obtain⟨y,hy,he⟩:=List.mem_map.1 hm;exact h.1 y hy he.symm
theorem tK:∀{a b:List Sp},a.Perm b->(a.map (·.1)).Nodup->a.Pairwise (λx y=>x.1<=y.1)->b.Pairwise (λx y=>x.1<=y.1)->a=b
 |[],b,h,_,_,_=>(List.Perm.nil_eq h)
 |x::r,[],h,_,_,_=>absurd h.symm.nil_eq (by simp)
 |x::r,y::s,h,hn,ha,hb=>by
  rw[List.pairwise_cons]at ha hb;rw[List.map_cons,List.nodup_cons]at hn;have hy':y∈x::r:=h.symm.subset (by simp);have h1:x.1<=y.1:=by rcases List.mem_cons.1 hy' with rfl|hy;exact Int.le_refl _;exact ha.1 y hy
  have h2:y.1<=x.1:=by have:x∈y::s:=h.subset (by simp);rcases List.mem_cons.1 this with rfl|hx;exact Int.le_refl _;exact hb.1 x hx
  have he:x.1=y.1:=by omega
  obtain rfl:y=x:=by rcases List.mem_cons.1 hy' with h|hy;exact h;exact absurd (List.mem_map.2 ⟨y,hy,he.symm⟩) hn.1
  rw[tK (List.Perm.cons_inv h) hn.2 ha.2 hb.2]
def sT(l:List Sp):List Sp:=bif NC l then UA l else V0 l
theorem qW{l:List Sp}(h:∀p∈l,rL p=false):sT l=V0 l:=by unfold sT;cases hd:NC l;rfl;obtain⟨h1,h2⟩:=B9 h;refine tK ((wD l).trans h1.symm) ?_ (xF l) h2;exact((wD l).map (·.1)).nodup_iff.2 (BL hd)
def nW:List Sp->List Int
 |[]=>[]
 |p::r=>p.1::p.2::nW r
theorem vF:∀l,(nW l).length=l.length*2
 |[]=>rfl
 |p::r=>by simp only[nW,List.length_cons,vF r];omega
theorem rP:∀l,bF l=(nW l).map aJ
 |[]=>rfl
 |p::r=>by rw[bF,nW,rP r];rfl
def C5:List AV->Option (List Sp)
 |[]=>some []
 |.int .i64 a :: .int .i64 b::r=>(C5 r).map ((a,b) :: ·)
 |_=>none
theorem LP:∀l,C5 (bF l)=some l
 |[]=>rfl
 |p::r=>by simp[bF,C5,LP r]
theorem LQ:∀{cs:List AV}{l:List Sp},C5 cs=some l->cs=bF l
 |[],l,h=>by simp[C5]at h;subst h;rfl
 |.int .i64 a :: .int .i64 b::r,l,h=>by simp only[C5,rN]at h;obtain⟨t,h1,rfl⟩:=h;rw[LQ h1];rfl
def vI(args:List AV)(_:Nat)(h:Hp):Option (AV×Hp):=
 match args with
 |[.sl _ [] _,.fn 683 []]=>some (.tup [],h)
 |[.rf k e off len _,.fn 683 []]=>
  match h.get k with
  |some (e',.blk cs 2 true ti false)=>
   if e'=e/\off+len*2<=cs.length/\len<=16777216 then
    match C5 ((cs.drop off).take (len*2)) with
    |some l=>if (l.all λp => !rL p)=true then some (.tup [],h.put k e (.blk (eL cs off (bF (sT l))) 2 true ti false)) else none
    |none=>none
   else none
  |_=>none
 |_=>none
section
variable{pg:Pg}
theorem aCF(h1:pg.fs 636=none)(h2:pg.ex 636=some vI):aIr pg where
 sort:=by
  intro kb h k e l hg hb hok;obtain⟨q1,q2⟩:=B9 hok;refine⟨sT l,by rw[qW hok];exact q1,by rw[qW hok];exact q2,?_⟩;have hlen:(sT l).length=l.length:=by rw[qW hok];exact q1.length_eq
  refine vA h1 h2 ?_;simp only[big]at hb;simp only[vI,hg,Nat.zero_add,List.drop_zero];rw[if_pos ⟨trivial,by rw[fA];exact Nat.le_refl _,hb⟩,List.take_of_length_le (by rw[fA];exact Nat.le_refl _),LP];dsimp only;rw[if_pos (by rw[eG];intro p hp;rw[hok p hp];rfl)];simp only[eL,List.take_zero,List.nil_append,Nat.zero_add];rw[List.drop_eq_nil_of_le (by rw[fA,fA,hlen];exact Nat.le_refl _),List.append_nil]
 sortN:=by intro kb h nl cl;exact vA h1 h2 rfl
end
theorem UT(l:List Sp):Go.Sort.flatK FN 2 (l.map BX).toArray=((nW (l.map λp=>(BX p).1)).map (Value.int .i64)).toArray:=by
 have key:∀(l:List Sp)(t:Nat),t<l.length*2->(FN (l.map BX).toArray[t / 2]!)[t % 2]! = ((nW (l.map λp=>(BX p).1)).map (Value.int .i64))[t]!:=by
  intro l
  induction l with
  |nil=>intro t h;simp at h
  |cons p l ih=>
   intro t h
   match t with
   |0=>rfl
   |1=>rfl
   |t+2=>have:=ih t (by simp at h;omega);rw[show (t+2) / 2=t / 2+1 from by omega,show (t+2) % 2=t % 2 from by omega];simpa[nW] using this
 have hs:(Go.Sort.flatK FN 2 (l.map BX).toArray).size=l.length*2:=by simp
 apply Array.ext;rw[hs];simp[vF];intro i h1 h2;have:=key l i (by omega);rw[<-getElem!_pos _ i h1,Go.Sort.get_flatK _ _ _ _ (by simpa using (by omega:i<l.length*2)),this,getElem!_pos _ i (by simpa using h2)];simp
theorem MC(zs:List Int)(w:World)(blk off:Nat):putRow id w blk off (zs.map (Value.int .i64)).toArray=putRow (Value.int .i64) w blk off zs.toArray:=by simp only[putRow];congr 1;funext c;apply Array.ext;simp[putCells];intro i h1 h2;simp only[putCells,Array.getElem_mapIdx,List.size_toArray,aI];split;rename_i hc;rw[getElem!_pos _ _ (by simpa using (by omega:i-off<zs.length)),getElem!_pos zs.toArray _ (by simpa using (by omega:i-off<zs.length))];simp;rfl
theorem QN{zs:List Int}{w:World}{blk off:Nat}(h:Holds (Value.int .i64) w blk off zs.toArray):Holds id w blk off (zs.map (Value.int .i64)).toArray:=by
 intro j hj;have hj':j<zs.length:=by simpa using hj
 obtain⟨h1,h2⟩:=h j (by simpa using hj');refine⟨?_,h2⟩;rw[h1,getElem!_pos (zs.map (Value.int .i64)).toArray j hj,getElem!_pos zs.toArray j (by simpa using hj')];simp
theorem UM{l:List Sp}(h:∀p∈l,rL p=false):(l.map λp=>(BX p).1)=l:=by have:=I3 h;rwa [List.map_map]at this
theorem PQ{P:Program}{r:Go.Shelf.Ren}(L:Go.Proofs.SlLaysF0.n6 P r)(aE:∀w,(Go.isAgg (r.t 24)).run P w = .ok true w)(zE:∀w,(Go.sizeOf (r.t 24)).run P w = .ok 2 w)(g:Nat)
  (eg:∀args w,(callFunc g args).run P w = .ok (.enter g args) w)
  (hcmp:∀(x y:GP)(W:World),Calls P g #[.agg (FN x).toArray,.agg (FN y).toArray] W λe w'=>e = .returned (.int .i64 (cfP x y))/\∃q os',w'=grow (W.drewN q) os')
  (blk off cap:Nat) (l:List Sp) (w:World) (hok:∀p∈l,rL p=false) (hH:Holds (Value.int .i64) w blk off (nW l).toArray) (hb:blk<w.heap.size) (hl:l.length<=16777216) :
  Calls P (r.f 6) #[.slice (some ⟨blk,off,none⟩) l.length cap,.func (.func g) #[] #[]] w λe w'=>e = .returned (.tuple #[])/\∃n os,w'=grow (putRow (Value.int .i64) (Sort.ahead w n) blk off (nW (sT l)).toArray) os:=by
 have hsz:(gpA l).size=l.length:=ZY l
 have h:=Go.Proofs.AnyQ.slices_SortFunc_eq L 2 aE zE FN (λ_=>rfl) (λx v hv=>by simp[FN]at hv;rcases hv with rfl|rfl<;>rfl) cfP aIy g #[] blk off cap (gpA l) w eg
  (λ_ _ _ _ x y=>hcmp x y _) (by
   unfold Go.Sort.HoldsK gpA;rw[UT,UM hok];exact QN hH) hb (by omega)
 rw[hsz]at h;refine h.mono ?_;rintro e w' ⟨rfl,n,os,rfl⟩;refine⟨rfl,n,os,?_⟩;have e1:IX l=((sT l).map BX).toArray:=by
  rw[qW hok,V0,List.map_map]
  have:(BX ∘ λx:GP=>x.1)=id:=by funext x;apply Subtype.ext;exact LJ x.2
  rw[this];simp
 have hok2:∀p∈sT l,rL p=false:=by intro p hp;rw[qW hok]at hp;exact hok p ((B9 hok).1.subset hp)
 have e2:pdq (Go.Proofs.ltOf cfP) (gpA l) 0 l.length (Lib.bitLen l.length) true true=IX l:=by rw[IX,hsz]
 rw[e2,e1,Go.Proofs.sortWorldK,Go.Sort.putRowK,UT,UM hok2,MC]
section
variable{P:Program}{num:Nm}{gl:Nat->Option AV}{aV:Nat->Nat}
theorem aCo(hfn:FR P (num 636))
  (hc:∀(blk off cap:Nat)(l:List Sp)(w:World),(∀p∈l,rL p=false)->Holds (Value.int .i64) w blk off (nW l).toArray->blk<w.heap.size->l.length<=16777216 ->
   Calls P (num 636) #[.slice (some ⟨blk,off,none⟩) l.length cap,.func (.func (num 683)) #[] #[]] w λe w'=>e = .returned (.tuple #[])/\∃n os,w'=grow (putRow (Value.int .i64) (Sort.ahead w n) blk off (nW (sT l)).toArray) os)
  (hn:∀(p:Option Addr)(cap:Nat)(fv:Value)(w:World),Calls P (num 636) #[.slice p 0 cap,fv] w λe w'=>e = .returned (.tuple #[])/\w'=w) :
  jC P num gl aV ⟨λf' avs kb h=>if f'=636 then vI avs kb h else none,λ_ _ _ _=>none⟩:=by
 intro f avs kb h r h' hr;dsimp only at hr;split at hr
 case isFalse=>cases hr
 rename_i hf;subst hf;refine⟨hfn,?_⟩;intro Fb B0 ρ O w vs H hG hv;have htup:∀{ρ : Rho}{w:World}{F:Nat->Prop},Rv num ρ w F (.tup []) (.tuple #[]):=.tup _ _ rfl (λi x y hx=>by simp at hx);unfold vI at hr;split at hr;cases hr;cases hv with
 |@cons _ c1 _ _ hrv h2=>
  obtain⟨c2,rfl,hrf⟩:=mF h2;have:∃p cap,c1 = .slice p 0 cap:=by cases hrv<;>exact⟨_,_,rfl⟩
  obtain⟨p,cap,rfl⟩:=this;refine(hn p cap c2 w).mono ?_;rintro e w' ⟨rfl,rfl⟩;exact⟨_,ρ,O,rfl,Evo.refl _ _ _,H,htup⟩
 rename_i k e off len cap;split at hr
 case h_2=>cases hr
 rename_i e' cs ti hg;split at hr
 case isFalse=>cases hr
 rename_i hcond;obtain⟨rfl,hle,hbig⟩:=hcond;split at hr
 case h_2=>cases hr
 rename_i l hl;split at hr
 case isFalse=>cases hr
 rename_i hall;cases hr;have hok:∀p∈l,rL p=false:=by rw[eG]at hall;intro p hp;simpa using hall p hp
 cases hv with
 |cons hrv h2=>
  obtain⟨c2,rfl,hrf⟩:=mF h2;have hc2:c2 = .func (.func (num 683)) #[] #[]:=by
   cases hrf with
   |fn f cs vs hl h=>
    have:vs = #[]:=by apply Array.ext;simpa using hl.symm;intro i h1 h2;simp at h2
    rw[this]
  subst hc2;cases hrv with
  |rf _ _ _ _ _ cap' L hL hlen hcap ht hroom=>
   have hzs:(cs.drop off).take (len*2)=(nW l).map aJ:=by rw[<-rP];exact LQ hl
   obtain⟨hH,hb,hzl⟩:=DD H hg hL hzs hle;rw[vF]at hzl;have hll:l.length=len:=by omega
   have hcall:=hc L.b (L.base+off) cap' l w hok hH hb (by omega);rw[hll]at hcall;refine hcall.mono ?_;rintro e w' ⟨rfl,n,os,rfl⟩;have hql:(sT l).length=l.length:=by rw[qW hok];exact(B9 hok).1.length_eq
   obtain⟨ev,H1⟩:=PX (n:=n) H hg hL (zs:=nW (sT l)) (by rw[vF,hql];omega) hle;obtain⟨ev2,H2⟩:=oU H1 (DU _ os);refine⟨_,ρ,O,rfl,ev.trans ev2,?_,htup⟩;rw[rP];exact H2
 cases hr
end
end
end Go.Tev
section
namespace Go.Proofs
open Go.Shelf Go.RowKit Go.Lib Go.Sort
def Tryz.sortPl_ren:Go.Shelf.Ren:=⟨λ|6=>40|15=>71|14=>70|28=>114|29=>115|20=>106|21=>107|22=>108|23=>109|24=>110|25=>111|26=>112|27=>113|46=>168|47=>169|48=>170|49=>171|50=>172|57=>219|n=>n,λ|22=>29|24=>40|25=>92|3=>3|39=>133|0=>0|53=>168|55=>170|4=>4|46=>162|45=>161|50=>134|5=>5|9=>9|66=>220|70=>224|76=>257|77=>258|n=>n,λ|n=>n⟩
theorem eW{α : Type}{x:Option α}{a b : α}(h:x=some a)(k:a=b:=by kernel_rfl):x=some b:=h.trans (congrArg some k)
theorem Tryz.sortPl:Go.Proofs.SlLaysF0.n6 Tryz.prog Tryz.sortPl_ren:={
 mixed:=by kernel_rfl
 f6:=⟨Tryz.f40.name,by decide,eW Tryz.func40⟩
 f14:=⟨Tryz.f70.name,by decide,eW Tryz.func70⟩
 f15:=eW Tryz.func71
 f20:=⟨Tryz.f106.name,by decide,eW Tryz.func106⟩
 f21:=⟨Tryz.f107.name,by decide,eW Tryz.func107⟩
 f22:=⟨Tryz.f108.name,by decide,eW Tryz.func108⟩
 f23:=⟨Tryz.f109.name,by decide,eW Tryz.func109⟩
 f24:=⟨Tryz.f110.name,by decide,eW Tryz.func110⟩
 f25:=⟨Tryz.f111.name,by decide,eW Tryz.func111⟩
 f26:=⟨Tryz.f112.name,by decide,eW Tryz.func112⟩
 f27:=⟨Tryz.f113.name,by decide,eW Tryz.func113⟩
 f28:=eW Tryz.func114
 f29:=eW Tryz.func115
 f46:=⟨Tryz.f168.name,by decide,eW Tryz.func168⟩
 f47:=eW Tryz.func169
 f48:=eW Tryz.func170
 f49:=⟨Tryz.f171.name,by decide,eW Tryz.func171⟩
 f50:=⟨Tryz.f172.name,by decide,eW Tryz.func172⟩
 f57:=⟨Tryz.f219.name,by decide,eW Tryz.func219⟩
 t0:=Tryz.underlying0
 a0:=Tryz.isAgg0
 z0:=Tryz.sizeOf0
 v0:=Tryz.zeroValue0
 t3:=Tryz.underlying3
 a3:=Tryz.isAgg3
 z3:=Tryz.sizeOf3
 v3:=Tryz.zeroValue3
 t4:=Tryz.underlying4
 a4:=Tryz.isAgg4
 z4:=Tryz.sizeOf4
 v4:=Tryz.zeroValue4
 t5:=Tryz.underlying5
 a5:=Tryz.isAgg5
 z5:=Tryz.sizeOf5
 v5:=Tryz.zeroValue5
 t9:=Tryz.underlying9
 a9:=Tryz.isAgg9
 z9:=Tryz.sizeOf9
 v9:=Tryz.zeroValue9
 t22:=Tryz.underlying29
 a22:=Tryz.isAgg29
 z22:=Tryz.sizeOf29
 v22:=Tryz.zeroValue29
 t25:=Tryz.underlying92
 a25:=Tryz.isAgg92
 z25:=Tryz.sizeOf92
 v25:=Tryz.zeroValue92
 t39:=Tryz.underlying133
 a39:=Tryz.isAgg133
 z39:=Tryz.sizeOf133
 v39:=Tryz.zeroValue133
 t45:=Tryz.underlying161
 a45:=Tryz.isAgg161
 z45:=Tryz.sizeOf161
 v45:=Tryz.zeroValue161
 t46:=Tryz.underlying162
 a46:=Tryz.isAgg162
 z46:=Tryz.sizeOf162
 v46:=Tryz.zeroValue162
 t50:=Tryz.underlying134
 a50:=Tryz.isAgg134
 z50:=Tryz.sizeOf134
 v50:=Tryz.zeroValue134
 t53:=Tryz.underlying168
 a53:=Tryz.isAgg168
 z53:=Tryz.sizeOf168
 v53:=Tryz.zeroValue168
 t55:=Tryz.underlying170
 a55:=Tryz.isAgg170
 z55:=Tryz.sizeOf170
 v55:=Tryz.zeroValue170
 t66:=Tryz.underlying220
 a66:=Tryz.isAgg220
 z66:=Tryz.sizeOf220
 v66:=Tryz.zeroValue220
 t70:=Tryz.underlying224
 a70:=Tryz.isAgg224
 z70:=Tryz.sizeOf224
 v70:=Tryz.zeroValue224
 t76:=Tryz.underlying257
 a76:=Tryz.isAgg257
 z76:=Tryz.sizeOf257
 v76:=Tryz.zeroValue257
 t77:=Tryz.underlying258
 a77:=Tryz.isAgg258
 z77:=Tryz.sizeOf258
 v77:=Tryz.zeroValue258}
open Go.Tev in
theorem aAv(x y:GP)(W:World):Calls Tryz.prog 41 #[.agg (FN x).toArray,.agg (FN y).toArray] W λe w'=>e = .returned (.int .i64 (cfP x y))/\∃q os',w'=grow (W.drewN q) os':=by
 have hw:IntKind.i64.wrap (x.1.1-y.1.1)=x.1.1-y.1.1:=by have h1:=FA x.2;have h2:=FA y.2;simp[IntKind.wrap,IntKind.bits,IntKind.signed];omega
 unfold FN cfP;generalize x.1.1=a at hw ⊢;generalize x.1.2=b;generalize y.1.1=c at hw ⊢;generalize y.1.2=d
 go_enter Tryz.func41,Tryz.ntmps41
 go_wp2
 go_ret
 exact⟨rfl,0,_,by rw[alloc_eq_grow,alloc_eq_grow,grow_grow];rfl⟩
open Go.Tev in
theorem PP(blk off cap:Nat)(l:List Sp)(w:World)(hok:∀p∈l,rL p=false)(hH:Holds (Value.int .i64) w blk off (nW l).toArray)(hb:blk<w.heap.size)(hl:l.length<=16777216) :
  Calls Tryz.prog 40 #[.slice (some ⟨blk,off,none⟩) l.length cap,.func (.func 41) #[] #[]] w λe w'=>e = .returned (.tuple #[])/\∃n os,w'=grow (putRow (Value.int .i64) (Sort.ahead w n) blk off (nW (sT l)).toArray) os:=
 PQ Tryz.sortPl Tryz.isAgg40 Tryz.sizeOf40 41 (enters_of Tryz.func41 (by kernel_rfl) rfl) aAv blk off cap l w hok hH hb hl
end Go.Proofs
end
