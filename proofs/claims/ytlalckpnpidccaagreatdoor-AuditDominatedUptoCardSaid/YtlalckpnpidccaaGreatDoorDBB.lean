import Derived.Test.YtlalckpnpidccaaGreatDoorDBA
import Derived.Test.YtlalckpnpidccaaGreatDoorDAZ
import Derived.Test.YtlalckpnpidccaaGreatDoorDAR
set_option linter.all false
namespace Go.Tev
section
def zJ(x:aD):Bool := !decide ((10:Int)<x.vs.es.length)&&x.vs.es.all λs => !decide ((40:Int)<s.bs.length)
def rB(l:List aD)(n:Int):Bool:=l.all zJ&&decide ((l.length:Int)<=n)
section
variable{pg:Pg}
set_option maxRecDepth 100000 in
theorem c884(hf:pg.fs 884=some z6)(P:Sl aD)(m:Int):Ret pg 884 [P.av aD.av,.int .i64 m] (.bool (rB P.es m)):=by
 have hb:=P.ok;refine Ret.ofX hf ?_;unfold z6;simp only[Sl.av,go_sem,seval];refine bD P.es (λd r env hp=>env=pS (.sl P.nl (P.es.map aD.av) P.cl) (.int .i64 m) (.int .i64 d.length)/\d.all zJ=true) ?_ ?_ ?_;exact⟨rfl,rfl⟩;rintro env hp ⟨rfl,h1⟩;have e1:decide ((P.es.length:Int)<(P.es.length:Int))=false:=by simp
 simp only[pQ,pS,aE,e1,go_sem,seval];simp only[rB,h1,Bool.true_and];rintro d x r env hp hes ⟨rfl,h1⟩;have hx:P.es[d.length]?=some x:=by rw[hes];simp
 have e1:decide ((d.length:Int)<(P.es.length:Int))=true:=by rw[hes];simp;omega
 have hsb:(d++x::r).length<=big:=by rw[<-hes];exact hb
 have hp0:(0:Int)<=(d.length:Int):=by omega
 cases v1:decide ((10:Int)<(x.vs.es.length:Int))
 case true=>
  have:rB P.es m=false:=by simp[rB,hes,zJ,v1]
  simp only[pQ,pS,aE,e1,hx,hp0,Int.toNat_natCast,Option.map_some,aD.av,Sl.av,v1,this,go_sem,seval]
 simp only[pQ,pS,aE,e1,hx,hp0,Int.toNat_natCast,Option.map_some,aD.av,Sl.av,v1,go_sem,seval];refine bD x.vs.es (λd2 r2 env hp2=>env=pT (.sl P.nl (P.es.map aD.av) P.cl) (.int .i64 m) (.int .i64 d.length) (.int .i64 d2.length)/\(d2.all λs => !decide ((40:Int)<s.bs.length))=true) ?_ ?_ ?_;exact⟨rfl,rfl⟩;rintro env hp2 ⟨rfl,h2⟩;have e2:decide ((x.vs.es.length:Int)<(x.vs.es.length:Int))=false:=by simp
 have h3:(d++[x]).all zJ=true:=by simp only[List.all_append,h1,List.all_cons,List.all_nil,zJ,v1,h2];rfl
 simp only[pR,pT,aE,e1,e2,hx,hp0,Int.toNat_natCast,Option.map_some,aD.av,Sl.av,bI hsb,go_sem,seval];exact⟨rfl,h3⟩;rintro d2 y r2 env hp2 hes2 ⟨rfl,h2⟩;have hy:x.vs.es[d2.length]?=some y:=by rw[hes2];simp
 have e2:decide ((d2.length:Int)<(x.vs.es.length:Int))=true:=by rw[hes2];simp;omega
 have hsb2:(d2++y::r2).length<=big:=by rw[<-hes2];exact x.vs.ok
 have hq2:(0:Int)<=(d2.length:Int):=by omega
 cases v2:decide ((40:Int)<(y.bs.length:Int))
 case true=>
  have:rB P.es m=false:=by simp[rB,hes,zJ,hes2,v2]
  simp only[pR,pT,aE,e1,e2,hx,hy,hp0,hq2,Int.toNat_natCast,Option.map_some,aD.av,Sl.av,Str.av,v2,this,go_sem,seval]
 simp only[pR,pT,aE,e1,e2,hx,hy,hp0,hq2,Int.toNat_natCast,Option.map_some,aD.av,Sl.av,Str.av,v2,bI hsb2,go_sem,seval];exact⟨rfl,by simp only[List.all_append,h2,List.all_cons,List.all_nil,v2];rfl⟩
end
end
section
theorem jM:∀ns:List Str,bG 1 false (ns.map Str.av)=some (ns.map Str.av)
 |[]=>rfl
 |s::r=>by rw[List.map_cons,bG,jM r];rfl
theorem pA:∀ns:List Str,bC (ns.map Str.av)=true
 |[]=>rfl
 |s::r=>by rw[List.map_cons,bC,pA r];rfl
theorem Own.strs{h:Hp}{k:Nat}{v:AV}{ns:List Str}(o:Own h k 1 false v (ns.map Str.av)):(ns=[]/\∃nl cl,v = .sl nl [] cl/\(nl||cl)=true)\/∃e,v = .rf k e 0 ns.length ns.length/\h.get k=some (e,.blk (ns.map Str.av) 1 false false false):=by
 rcases o with ⟨h1,nl,cl,rfl,hc⟩|⟨e,cs,rfl,hg,hu⟩
 exact .inl ⟨List.map_eq_nil_iff.1 h1,nl,cl,rfl,hc⟩;rw[jM]at hu;cases hu;exact .inr ⟨e,by simp,hg⟩
def lD(h:Hp)(esz:Nat)(ag:Bool)(w:AV)(xs:List AV)(rd:List Nat):Prop:=∃ds,bG esz ag xs=some ds/\bS h esz ag w=some (ds,xs.length,rd)
theorem lD.sl{h:Hp}{esz:Nat}{ag nl cl:Bool}{xs:List AV}(hx:∀x∈xs,El esz ag x):lD h esz ag (.sl nl xs cl) xs []:=by obtain⟨ds,d1,d2,d3,_⟩:=d8 hx;exact⟨ds,d1,by simp[bS,d1]⟩
theorem lD.rf{h:Hp}{k e off len cap:Nat}{ns:List Str}{ms:List Str}(hg:h.get k=some (e,.blk (ns.map Str.av) 1 false false false))(hm:(ns.drop off).take len=ms)(hl:ms.length=len)(hn:off+len<=ns.length) :
  lD h 1 false (.rf k e off len cap) (ms.map Str.av) [k]:=by
 refine⟨ms.map Str.av,jM ms,?_⟩;have e1:((ns.map Str.av).drop off).take (len*1)=ms.map Str.av:=by rw[Nat.mul_one,<-List.map_drop,<-List.map_take,hm]
 simp only[bS,hg,e1];rw[if_pos ⟨trivial,by simp;omega,pA ms⟩];simp[hl]
theorem FR{h:Hp}{k e:Nat}{ns:List Str}(hg:h.get k=some (e,.blk (ns.map Str.av) 1 false false false)){j:Nat}(hj:j<=ns.length) :
  jY h 1 false true false [.rf k e 0 ns.length ns.length,.int .i64 (j:Int)]=some (.rf k e 0 j ns.length,.pat [k] []):=by
 simp only[jY,fZ,jN,hg,Bool.false_eq_true,if_false,if_true,Option.getD_none,Option.getD_some,Option.isNone_none,Bool.or_true];rw[if_pos ⟨trivial,trivial,by omega,by omega,by omega,by omega,trivial,.inl trivial⟩];simp
theorem sV{h:Hp}{k e:Nat}{ns:List Str}(hg:h.get k=some (e,.blk (ns.map Str.av) 1 false false false)){j:Nat}(hj:j<=ns.length) :
  ∃w rd,jY h 1 true false false [.rf k e 0 ns.length ns.length,.int .i64 (j:Int)]=some (w,.pat [k] [])/\∀h':Hp,h'.get k=h.get k->lD h' 1 false w ((ns.drop j).map Str.av) rd:=by
 simp only[jY,fZ,jN,hg,Bool.false_eq_true,if_false,if_true,Option.getD_none,Option.getD_some,Option.isNone_none,Bool.or_true];by_cases h0:j=0\/j<ns.length;rw[if_pos ⟨trivial,trivial,by omega,by omega,by omega,by omega,trivial,by omega⟩];refine⟨_,[k],rfl,λh' hh=>?_⟩;have e1:(if (ns.length:Int)=(j:Int) then 0 else 0+(j:Int).toNat*1)=j:=by split;omega;simp
 rw[e1];refine lD.rf (ns:=ns) hh ?_ (by simp) (by simp;omega);rw[List.take_of_length_le (by simp)];rw[if_neg (by rintro⟨_,_,_,_,_,_,_,h|h|h⟩<;>first|omega|(simp at h)),if_pos ⟨trivial,by omega,by omega,by omega,by omega⟩];refine⟨_,[],rfl,λh' _=>?_⟩;have:ns.drop j=[]:=List.drop_eq_nil_of_le (by omega);rw[this];exact lD.sl (by simp)
theorem Own.pre{h:Hp}{k:Nat}{v:AV}{ns:List Str}(o:Own h k 1 false v (ns.map Str.av)){j:Nat}(hj:j<=ns.length) :
  ∃w rd1 rd2,(rd1=[]\/rd1=[k])/\∀h':Hp,h'.get k=h.get k->jY h' 1 false true false [v,.int .i64 (j:Int)]=some (w,.pat rd1 [])/\lD h' 1 false w ((ns.take j).map Str.av) rd2:=by
 rcases o.strs with ⟨rfl,nl,cl,rfl,hc⟩|⟨e,rfl,hg⟩
 obtain rfl:j=0:=Nat.le_zero.1 hj;refine⟨_,[],[],.inl rfl,λh' _=>⟨rfl,?_⟩⟩;simp only[List.take_nil,List.map_nil,List.drop_nil];exact lD.sl (by simp);refine⟨_,[k],[k],.inr rfl,λh' hh=>⟨FR (hh.trans hg) hj,?_⟩⟩;exact lD.rf (hh.trans hg) (by simp) (by simp;omega) (by omega)
theorem Own.post{h:Hp}{k:Nat}{v:AV}{ns:List Str}(o:Own h k 1 false v (ns.map Str.av)){j:Nat}(hj:j<=ns.length) :
  ∃w rd1 rd2,(rd1=[]\/rd1=[k])/\∀h':Hp,h'.get k=h.get k->jY h' 1 true false false [v,.int .i64 (j:Int)]=some (w,.pat rd1 [])/\lD h' 1 false w ((ns.drop j).map Str.av) rd2:=by
 rcases o.strs with ⟨rfl,nl,cl,rfl,hc⟩|⟨e,rfl,hg⟩
 obtain rfl:j=0:=Nat.le_zero.1 hj;refine⟨_,[],[],.inl rfl,λh' _=>⟨rfl,?_⟩⟩;simp only[List.take_nil,List.map_nil,List.drop_nil];exact lD.sl (by simp);obtain⟨w,rd,h1,h2⟩:=sV hg hj;refine⟨w,[k],rd,.inr rfl,λh' hh=>⟨?_,h2 h' hh⟩⟩;obtain⟨w',rd',h3,h4⟩:=sV (hh.trans hg) hj;rw[h3];have e0:∀h0:Hp,h0.get k=h.get k->jY h0 1 true false false [.rf k e 0 ns.length ns.length,.int .i64 (j:Int)]=jY h 1 true false false [.rf k e 0 ns.length ns.length,.int .i64 (j:Int)]:=by intro h0 hh0;simp only[jY,jN,hh0]
 rw[<-h3,e0 h' hh,h1]
section
variable{pg:Pg}{kb:Nat}
theorem jW{esz bytes s k1:Nat}{ag:Bool}{h:Hp}{v w:AV}{es xs:List AV}{rd0:List Nat}{Q:AV->Eff->Prop}{t:Tok Q}(o:Own h k1 esz ag v es)(o2:lD h esz ag w xs rd0)(he:∀x∈es,El esz ag x)
  (hl:es.length+xs.length<=1073741824) (hb:bytes<=65536)
  (q:∀v' k' rd pa,(k'=k1\/k'=kb+s)->Own (Eff.app h (.pat rd pa)) k' esz ag v' (es++xs)->(∀k,k≠kb+s->k≠k1->(Eff.app h (.pat rd pa)).get k=h.get k)->(∀x∈pa,x.k=kb+s\/x.k=k1)->Q v' (.pat rd pa)) :
  XO pg kb (.app esz ag bytes) s h [v,w] Q t:=by
 rw[JN];obtain⟨ds,d1,hs⟩:=o2;simp only[zL,hs];by_cases hxs:xs=[]
 subst hxs;cases d1;rcases o with ⟨rfl,nl',cl',rfl,hc⟩|⟨e,cs,rfl,hg,hu⟩
 simp only[j3,List.length_nil,if_true];exact q _ k1 _ _ (.inl rfl) (.inl ⟨rfl,nl',cl',rfl,hc⟩) (λ_ _ _=>rfl) (by simp);obtain⟨cs',c1,c2,_,_⟩:=d8 he;rw[hu]at c1;cases c1;simp only[j3,hg,List.length_nil,if_true,true_and,Nat.zero_add];rw[if_pos (by omega)];exact q _ k1 _ _ (.inl rfl) (.inr ⟨e,cs,by simp,by simpa[Eff.app,bB] using hg,by simpa using hu⟩) (λ_ _ _=>rfl) (by simp);have hn:xs.length≠0:=by simpa using hxs
 rcases o with ⟨rfl,nl',cl',rfl,hc⟩|⟨e,cs,rfl,hg,hu⟩
 simp only[j3,hn,if_false,hc,List.length_nil,Nat.zero_add,Bool.true_and];have hlx:xs.length<=1073741824:=by simpa using hl
 simp only[hlx,hb,decide_true,Bool.and_self,if_true,bG,List.nil_append];refine q _ (kb+s) _ _ (.inr rfl) (.inr ⟨_,ds,rfl,?_,by simpa using d1⟩) ?_ (by simp);rw[fS,aG,if_pos rfl];intro k hk _;rw[fS,aG,if_neg (Ne.symm hk)];obtain⟨cs',c1,c2,_,_⟩:=d8 he;rw[hu]at c1;cases c1;have h1:¬(es.length+xs.length<=es.length):=by omega
 by_cases hk1:k1=kb+s;subst hk1;simp only[j3,hg,hn,if_false,true_and,Nat.zero_add];rw[if_pos (by omega)];simp only[h1,if_false,hl,hb,decide_true,Bool.true_and,beq_self_eq_true,Bool.not_true,Bool.and_false,Bool.false_eq_true,Bool.not_false,if_true];refine q _ (kb+s) _ _ (.inr rfl) (.inr ⟨e+1,cs++ds,by simp,?_,fL hu d1⟩) ?_ (by simp);rw[fS,aG,if_pos rfl];simp[<-c2];intro k hk _;rw[fS,aG,if_neg (Ne.symm hk)];have h2:(k1==kb+s)=false:=by simpa using hk1
 simp only[j3,hg,hn,if_false,true_and,Nat.zero_add];rw[if_pos (by omega)];simp only[h1,if_false,hl,hb,decide_true,Bool.true_and,h2,Bool.not_false,if_true,Bool.false_eq_true];refine q _ (kb+s) _ _ (.inr rfl) (.inr ⟨h.next (kb+s),cs++ds,by simp,?_,fL hu d1⟩) ?_ (by simp);rw[nF,aG,if_pos rfl];simp[<-c2];intro k hk hk2;rw[nF,aG,if_neg (Ne.symm hk),aG,if_neg (Ne.symm hk2)]
theorem JK{esz s k1:Nat}{ag:Bool}{h:Hp}{v:AV}{es:List AV}{Q:AV->Eff->Prop}{t:Tok Q}(o:Own h k1 esz ag v es)(hk1:k1≠kb+s)
  (q:∀v' rd pa,Own (Eff.app h (.pat rd pa)) (kb+s) esz ag v' es->(∀k,k≠kb+s->k≠k1->(Eff.app h (.pat rd pa)).get k=h.get k)->Q v' (.pat rd pa)) :
  XO pg kb .mvk s h [v] Q t:=by
 show WO pg kb .mvk s h [v] Q;rw[bM rfl];show D9 (mV h (kb+s) v) Q;rcases o with ⟨rfl,nl',cl',rfl,hc⟩|⟨e,cs,rfl,hg,hu⟩
 exact q _ _ _ (.inl ⟨rfl,nl',cl',rfl,hc⟩) (λ_ _ _=>rfl);have e1:mV h (kb+s) (.rf k1 e 0 es.length es.length)=some (.rf (kb+s) (h.next (kb+s)) 0 es.length es.length,.pat [kb+s,k1] [⟨k1,e,.dead⟩,⟨kb+s,h.next (kb+s),.blk cs esz ag false false⟩]):=by simp[mV,hg,hk1]
 rw[e1];refine q _ _ _ (.inr ⟨_,cs,rfl,?_,hu⟩) ?_;rw[nF,aG,if_pos rfl];intro k hk hk2;rw[nF,aG,if_neg (Ne.symm hk),aG,if_neg (Ne.symm hk2)]
end
theorem m9(a:List Nat):nA a []=true:=by simp[nA]
theorem qQ(a:List Nat):nA [] a=true:=rfl
theorem m8{pa:List Ent}{k:Nat}(h:∀x∈pa,x.k≠k)(q:List Nat)(hq:q=[]\/q=[k]):nA (pa.map (·.k)) q=true:=by rcases hq with rfl|rfl;exact m9 _;simp only[nA,bT,c7,List.contains_eq_mem,gO,List.mem_singleton];intro k hk;obtain⟨x,hx,rfl⟩:=List.mem_map.1 hk;exact h x hx
end
section
def j0(l:List aD):Nat:=(l.map λx=>x.vs.es.length).sum
theorem sL(l:List aD)(x:aD):j0 (l++[x])=j0 l+x.vs.es.length:=by simp[j0]
theorem JU(l r:List aD):j0 l<=j0 (l++r):=by simp[j0]
section
variable{pg:Pg}
set_option maxRecDepth 100000 in
theorem c886(hf:pg.fs 886=some zY)(h690:∀P:Sl aD,Ret pg 690 [.sl P.nl (P.es.map aD.av) P.cl] (.bool (aN P.es)))(P:Sl aD)(hv:j0 P.es<=1000) :
  fT pg 886 [P.av aD.av] (λr=>∃ns:List Str,x7 1 false (ns.map Str.av) r/\ns.length<=j0 P.es):=by
 have hb:=P.ok;have tm:∀l:List aD,treeL (l.map aD.av)=true:=by intro l;refine aQ (λx=>?_) l;have:=aQ (f:=Str.av) (λ_=>rfl) x.vs.es;simp only[aD.av,Sl.av];simp only[this,go_sem,seval]
 refine fT.ofX hf ?_;unfold zY;simp only[Sl.av,go_sem,seval];refine bQ (h690 P) (by simp only[tm P.es,go_sem,seval]) rfl ?_;cases v1:aN P.es
 case false=>refine Wk ?_;exact⟨[],.inl ⟨rfl,_,_,rfl,rfl⟩,by simp⟩
 refine Wk ?_;refine bD P.es (λd r env hp=>∃v,∃ns:List Str,env=wX (.sl P.nl (P.es.map aD.av) P.cl) v (.int .i64 d.length)/\Own hp 17 1 false v (ns.map Str.av)/\ns.length<=j0 d) ?_ ?_ ?_;exact⟨_,[],rfl,Own.nil _ _ _ _ _ _ rfl,by simp⟩;rintro env hp ⟨v,ns,rfl,o,hl⟩;have e1:decide ((P.es.length:Int)<(P.es.length:Int))=false:=by simp
 simp only[wV,wX,aE,e1,go_sem,seval];obtain⟨r,h1,h2⟩:=o.conv (El.strs _);exact⟨r,h1,ns,h2,hl⟩;rintro d x r env hp hes ⟨v,ns,rfl,o,hl⟩;have hx:P.es[d.length]?=some x:=by rw[hes];simp
 have e1:decide ((d.length:Int)<(P.es.length:Int))=true:=by rw[hes];simp;omega
 have hsb:(d++x::r).length<=big:=by rw[<-hes];exact hb
 have hp0:(0:Int)<=(d.length:Int):=by omega
 have hvd:j0 d+x.vs.es.length<=1000:=by have:=JU (d++[x]) r;rw[sL,List.append_assoc,List.singleton_append,<-hes]at this;omega
 simp only[wV,wX,aE,e1,hx,hp0,Int.toNat_natCast,Option.map_some,aD.av,Sl.av,go_sem,seval];refine bD x.vs.es (λd2 r2 env hp2=>∃v,∃ns:List Str,env=wY (.sl P.nl (P.es.map aD.av) P.cl) v (.int .i64 d.length) (.int .i64 d2.length)/\Own hp2 17 1 false v (ns.map Str.av)/\ns.length<=j0 d+d2.length) ?_ ?_ ?_;exact⟨v,ns,rfl,o,hl⟩;rintro env hp2 ⟨v,ns,rfl,o,hl⟩;have e2:decide ((x.vs.es.length:Int)<(x.vs.es.length:Int))=false:=by simp
 simp only[wW,wY,aE,e1,e2,hx,hp0,Int.toNat_natCast,Option.map_some,aD.av,Sl.av,bI hsb,go_sem,seval];exact⟨v,ns,rfl,o,by rw[sL];exact hl⟩;rintro d2 y r2 env hp2 hes2 ⟨v,ns,rfl,o,hl⟩;have hy:x.vs.es[d2.length]?=some y:=by rw[hes2];simp
 have e2:decide ((d2.length:Int)<(x.vs.es.length:Int))=true:=by rw[hes2];simp;omega
 have hsb2:(d2++y::r2).length<=big:=by rw[<-hes2];exact x.vs.ok
 have hq2:(0:Int)<=(d2.length:Int):=by omega
 have hn1:ns.length<=1000:=by
  have:d2.length<x.vs.es.length:=by rw[hes2];simp
  omega
 have hl2:ns.length+1<=j0 d+(d2++[y]).length:=by simp;omega
 have hfl:∀h',oX h' 1 [v]=some (.int .i64 ns.length,.pat [] []):=by intro h';have:=o.flen h';rwa [aE]at this
 simp only[wW,wY,aE,e1,e2,hx,hy,hp0,hq2,Int.toNat_natCast,Option.map_some,aD.av,Sl.av,go_sem,seval];refine bD ns (λd3 r3 env hp3=>hp3=hp2/\env=jU (.sl P.nl (P.es.map aD.av) P.cl) v (.int .i64 d.length) (.int .i64 d2.length) (.int .i64 d3.length)) ?_ ?_ ?_;exact⟨rfl,rfl⟩;rintro env hp3 ⟨rfl,rfl⟩;have e3:decide ((ns.length:Int)<(ns.length:Int))=false:=by simp
 have e4:decide ((ns.length:Int)=(ns.length:Int))=true:=by simp
 have hkk:ns.length<=ns.length:=Nat.le_refl _;obtain⟨w1,q1,q2,hq1,hs1⟩:=o.pre hkk;obtain⟨w2,q3,q4,hq3',hs2⟩:=o.post hkk;have s1:=(hs1 hp3 rfl).1;simp only[jT,jU,aE,e1,e2,hx,hy,hp0,hq2,Int.toNat_natCast,Option.map_some,aD.av,Sl.av,Str.av,e3,e4,↓hfl,↓s1,go_sem,seval];refine⟨by kernel_rfl,by kernel_rfl,?_⟩;refine jW (kb:=0) (s:=5) (k1:=5) (es:=[]) (Own.nil _ _ _ _ _ _ rfl) (hs1 hp3 rfl).2 (by intro z hz;cases hz) (by simp;omega) (by decide) ?_;intro v5 k5 rd5 pa5 hk5 o5 hh5 hp5;obtain rfl:k5=5:=hk5.elim id id;rw[List.nil_append]at o5;have g5:=hh5 17 (by decide) (by decide);generalize Eff.app hp3 (.pat rd5 pa5)=h5 at o5 hh5 g5 ⊢;simp only[jT,jU,aE,e1,e2,hx,hy,hp0,hq2,Int.toNat_natCast,Option.map_some,aD.av,Sl.av,Str.av,e3,e4,↓hfl,go_sem,seval];refine jW (kb:=0) (s:=9) o5 (lD.sl (xs:=[.str y.bs]) (by intro q hq;simp at hq;subst hq;exact El.str _)) (El.strs _) (by simp;omega) (by decide) ?_;intro v9 k9 rd9 pa9 hk9 o9 hh9 hp9;have g9:=(hh9 17 (by decide) (by decide)).trans g5;generalize Eff.app h5 (.pat rd9 pa9)=h9 at o9 hh9 g9 ⊢;rw[show (ns.take ns.length).map Str.av++[AV.str y.bs]=(ns.take ns.length++[y]).map Str.av by simp only[List.map_append,List.map_cons,List.map_nil,Str.av]]at o9;have s2:=(hs2 h9 g9).1;simp only[↓s2,go_sem,seval];refine jW (kb:=0) (s:=13) o9 (hs2 h9 g9).2 (El.strs _) (by simp;omega) (by decide) ?_;intro v13 k13 rd13 pa13 hk13 o13 hh13 hp13;rw[<-List.map_append]at o13;generalize Eff.app h9 (.pat rd13 pa13)=h13 at o13 hh13 ⊢;refine Wk ?_;refine JK (kb:=0) (s:=17) o13 (by omega) ?_;intro v17 rd17 pa17 o17 hh17;generalize Eff.app h13 (.pat rd17 pa17)=h17 at o17 hh17 ⊢;have d5:∀q,(q=[]\/q=[17])->nA (pa5.map (·.k)) q=true:=m8 (λx hx=>by have:=hp5 x hx;omega);have d9:∀q,(q=[]\/q=[17])->nA (pa9.map (·.k)) q=true:=m8 (λx hx=>by have:=hp9 x hx;omega);simp only[bI hsb2,go_sem,seval];refine⟨by simp[eL,gE,R.apart,R.uses,X.tmp,Eff.apart,d5 _ hq3',d9 _ hq3',m9,qQ,Nat.testBit],v17,_,rfl,o17,by simp;omega⟩;rintro d3 z r3 env hp3 hes3 ⟨rfl,rfl⟩;have hz:ns[d3.length]?=some z:=by rw[hes3];simp
 have e3:decide ((d3.length:Int)<(ns.length:Int))=true:=by rw[hes3];simp;omega
 have e4:decide ((d3.length:Int)=(ns.length:Int))=false:=by rw[hes3];simp;omega
 have hq3:(0:Int)<=(d3.length:Int):=by omega
 have hsb3:(d3++z::r3).length<=big:=by rw[<-hes3];simp only[big];omega
 rcases o.strs with ⟨rfl,_⟩|⟨e17,rfl,hg⟩
 simp at hz;have hd3:d3.length<ns.length:=by rw[hes3];simp
 have hz1:ns[0+d3.length*1]?=some z:=by simpa using hz
 have hq4:(0:Int)<=(d3.length:Int)/\(d3.length:Int)<(ns.length:Int):=⟨hq3,by omega⟩
 cases y1:Op.bytesLess z.bs y.bs
 case true=>simp only[jT,jU,aE,e1,e2,hx,hy,hp0,hq2,Int.toNat_natCast,Option.map_some,aD.av,Sl.av,Str.av,e3,e4,hz1,hq3,hq4,↓hfl,hg,List.getElem?_map,y1,bI hsb3,go_sem,seval];exact⟨by kernel_rfl,rfl⟩
 cases y2:decide (z.bs=y.bs)
 case true=>simp only[jT,jU,aE,e1,e2,hx,hy,hp0,hq2,Int.toNat_natCast,Option.map_some,aD.av,Sl.av,Str.av,e3,e4,hz1,hq3,hq4,↓hfl,hg,List.getElem?_map,y1,y2,bI hsb2,go_sem,seval];exact⟨by kernel_rfl,by kernel_rfl,_,ns,rfl,o,by omega⟩
 have hkk:d3.length<=ns.length:=by omega
 obtain⟨w1,q1,q2,hq1,hs1⟩:=o.pre hkk;obtain⟨w2,q3,q4,hq3',hs2⟩:=o.post hkk;have s1:=(hs1 hp3 rfl).1;simp only[jT,jU,aE,e1,e2,hx,hy,hp0,hq2,Int.toNat_natCast,Option.map_some,aD.av,Sl.av,Str.av,e3,e4,hz1,hq3,hq4,↓hfl,hg,List.getElem?_map,y1,y2,↓s1,go_sem,seval];refine⟨by kernel_rfl,by kernel_rfl,?_⟩;refine jW (kb:=0) (s:=5) (k1:=5) (es:=[]) (Own.nil _ _ _ _ _ _ rfl) (hs1 hp3 rfl).2 (by intro z hz;cases hz) (by simp;omega) (by decide) ?_;intro v5 k5 rd5 pa5 hk5 o5 hh5 hp5;obtain rfl:k5=5:=hk5.elim id id;rw[List.nil_append]at o5;have g5:=hh5 17 (by decide) (by decide);generalize Eff.app hp3 (.pat rd5 pa5)=h5 at o5 hh5 g5 ⊢;simp only[jT,jU,aE,e1,e2,hx,hy,hp0,hq2,Int.toNat_natCast,Option.map_some,aD.av,Sl.av,Str.av,e3,e4,hz1,hq3,hq4,↓hfl,hg,List.getElem?_map,y1,y2,go_sem,seval];refine jW (kb:=0) (s:=9) o5 (lD.sl (xs:=[.str y.bs]) (by intro q hq;simp at hq;subst hq;exact El.str _)) (El.strs _) (by simp;omega) (by decide) ?_;intro v9 k9 rd9 pa9 hk9 o9 hh9 hp9;have g9:=(hh9 17 (by decide) (by decide)).trans g5;generalize Eff.app h5 (.pat rd9 pa9)=h9 at o9 hh9 g9 ⊢;rw[show (ns.take d3.length).map Str.av++[AV.str y.bs]=(ns.take d3.length++[y]).map Str.av by simp only[List.map_append,List.map_cons,List.map_nil,Str.av]]at o9;have s2:=(hs2 h9 g9).1;simp only[↓s2,go_sem,seval];refine jW (kb:=0) (s:=13) o9 (hs2 h9 g9).2 (El.strs _) (by simp;omega) (by decide) ?_;intro v13 k13 rd13 pa13 hk13 o13 hh13 hp13;rw[<-List.map_append]at o13;generalize Eff.app h9 (.pat rd13 pa13)=h13 at o13 hh13 ⊢;refine Wk ?_;refine JK (kb:=0) (s:=17) o13 (by omega) ?_;intro v17 rd17 pa17 o17 hh17;generalize Eff.app h13 (.pat rd17 pa17)=h17 at o17 hh17 ⊢;have d5:∀q,(q=[]\/q=[17])->nA (pa5.map (·.k)) q=true:=m8 (λx hx=>by have:=hp5 x hx;omega);have d9:∀q,(q=[]\/q=[17])->nA (pa9.map (·.k)) q=true:=m8 (λx hx=>by have:=hp9 x hx;omega);simp only[bI hsb2,go_sem,seval];refine⟨by simp[eL,gE,R.apart,R.uses,X.tmp,Eff.apart,d5 _ hq3',d9 _ hq3',m9,qQ,Nat.testBit],v17,_,rfl,o17,by simp;omega⟩
end
end
section
def prB(vs:List Val):List (List UInt8)->Int
 |[]=>1
 |s::r=>nu vs s*prB vs r
theorem nP(vs:List Val):∀l:List Str,kC vs l=prB vs (l.map Str.bs)
 |[]=>rfl
 |s::r=>by rw[kC,nP vs r];rfl
theorem EH{vs:List Val}(h:∀v∈vs,0<=v.n)(s:List UInt8):0<=nu vs s:=by
 rw[nu];cases hf:vs.find? λv=>decide (v.v.bs=s) with
 |none=>simp
 |some v=>simpa using h v (List.mem_of_find?_eq_some hf)
theorem lY{vs:List Val}(h:∀v∈vs,0<=v.n):∀l,0<=prB vs l
 |[]=>by simp[prB]
 |s::r=>Int.mul_nonneg (EH h s) (lY h r)
theorem CK(f:List (List UInt8)->Int)(k:List (List UInt8)):∀{q:List aD},(q.map aD.bs).Nodup->(q.map λy=>if y.bs=k then y.c*f y.bs else 0).sum=ck q k*f k
 |[],_=>by simp[ck]
 |y::r,h=>by
  simp only[List.map_cons,List.nodup_cons]at h;have ih:=CK f k h.2;simp only[List.map_cons,List.sum_cons];by_cases e:y.bs=k;have h0:ck r k=0:=by
   have:r.find? (λx=>decide (x.bs=k))=none:=by rw[List.find?_eq_none];intro z hz hk;exact h.1 (by rw[e,<-bU hk];exact List.mem_map_of_mem hz)
   rw[ck,this];rfl
  have h1:ck (y::r) k=y.c:=by simp[ck,e]
  rw[ih,h0,h1,if_pos e,e];simp;have h1:ck (y::r) k=ck r k:=by simp[ck,e]
  rw[ih,h1,if_neg e];simp
theorem CL(f g:aD->Int):∀l:List aD,(l.map λy=>f y+g y).sum=(l.map f).sum+(l.map g).sum
 |[]=>rfl
 |y::r=>by simp only[List.map_cons,List.sum_cons,CL f g r];omega
theorem FO(f:List (List UInt8)->Int){q:List aD}(hq:(q.map aD.bs).Nodup):∀{p:List aD},(p.map aD.bs).Nodup->(p.map λx=>ck q x.bs*f x.bs).sum=(q.map λy=>if y.bs∈p.map aD.bs then y.c*f y.bs else 0).sum
 |[],_=>by
  have:∀l:List aD,(l.map λ_=>(0:Int)).sum=0:=by
   intro l;induction l with
   |nil=>rfl
   |cons a r ih=>simp only[List.map_cons,List.sum_cons,ih];rfl
  simpa using (this q).symm
 |x::r,h=>by
  simp only[List.map_cons,List.nodup_cons]at h;have ih:=FO f hq h.2;simp only[List.map_cons,List.sum_cons,ih];rw[<-CK f x.bs hq,<-CL];congr 1;refine List.map_congr_left λy _=>?_;by_cases e:y.bs=x.bs;have:¬y.bs∈r.map aD.bs:=by rw[e];exact h.1
  rw[if_pos e,if_neg this,if_pos (by rw[e];simp)];simp;rw[if_neg e];by_cases e2:y.bs∈r.map aD.bs;rw[if_pos e2,if_pos (bJ _ e2)];simp;rw[if_neg e2,if_neg (by simp only[List.mem_cons,not_or];exact⟨e,e2⟩)];simp
theorem AP{f g:aD->Int}:∀{l:List aD},(∀x∈l,f x<=g x)->(l.map f).sum<=(l.map g).sum
 |[],_=>by simp
 |x::r,h=>by have:=AP (f:=f) (g:=g) (l:=r) λy hy=>h y (bJ _ hy);have:=h x (by simp);simp only[List.map_cons,List.sum_cons];omega
theorem mT{l:List aD}(h:aN l=true):(l.map aD.bs).Nodup:=by
 have:=(s8 h).2;have e:l.map jn=(l.map aD.bs).map λb=>Lib.join b [42]:=by rw[List.map_map];rfl
 rw[e]at this;exact List.Pairwise.of_map (λb=>Lib.join b [42]) (λa b h e=>h (by rw[e])) this
theorem VA{p q:List aD}(hp:aN p=true)(hq:aN q=true){vs:List Val}(hv:∀v∈vs,0<=v.n)
  (h:((p.all λx => !decide (ck q x.bs<x.c))&&q.all λy => !decide (y.c<ck p y.bs))=true):yQ vs p<=yQ vs q:=by
 simp only[aA,bT,c7,gO]at h;obtain⟨h1,h2⟩:=h
 have a1:yQ vs p<=(p.map λx=>ck q x.bs*prB vs x.bs).sum:=by refine AP λx hx=>?_;rw[oQ,nP];exact Int.mul_le_mul_of_nonneg_right (by have:=h1 x hx;omega) (lY hv _)
 refine Int.le_trans a1 ?_;rw[FO (prB vs) (mT hq) (mT hp)];refine AP λy hy=>?_;rw[oQ,nP];have hn:prB vs (y.vs.es.map Str.bs)=prB vs y.bs:=rfl;rw[hn];by_cases e:y.bs∈p.map aD.bs;rw[if_pos e];exact Int.le_refl _;rw[if_neg e];have h0:ck p y.bs=0:=by
  have:p.find? (λx=>decide (x.bs=y.bs))=none:=by rw[List.find?_eq_none];intro z hz hk;exact e (by rw[<-bU hk];exact List.mem_map_of_mem hz)
  rw[ck,this];rfl
 have h3:=h2 y hy;rw[h0]at h3;exact Int.mul_nonneg (by omega) (lY hv _)
end
section
theorem zI{l:List aD}(h:rB l 8=true):j0 l<=80:=by
 simp only[rB,aA,bT,bH]at h;have:∀l:List aD,(∀x∈l,zJ x=true)->j0 l<=10*l.length:=by
  intro l
  induction l with
  |nil=>intro _;simp[j0]
  |cons x r ih=>intro hl;have h1:=ih λy hy=>hl y (bJ _ hy);have h2:=hl x (by simp);simp only[zJ,aA,c7,gO]at h2;simp only[j0,List.map_cons,List.sum_cons,List.length_cons]at h1 ⊢;omega
 have:=this l h.1;omega
theorem El.vals(l:List Val):∀x∈l.map Val.av,El 2 true x:=by intro x hx;obtain⟨y,_,rfl⟩:=List.mem_map.1 hx;exact⟨rfl,rfl,rfl⟩
section
variable{pg:Pg}
set_option maxRecDepth 100000 in
theorem c881(hf:pg.fs 881=some z7)(h662:Ret pg 662 [] (.bool true))(P Q:Sl aD)(ks:List Int)(hk4:ks.length=4)(hku:∀k∈ks,0<=k/\k<=255)
  (h884:∀(P:Sl aD)(m:Int),Ret pg 884 [P.av aD.av,.int .i64 m] (.bool (rB P.es m)))
  (h675:Ret pg 675 [P.av aD.av,Q.av aD.av] (.bool (aN P.es&&aN Q.es&&(pE P.es Q.es&&n7 P.es Q.es))))
  (h885:Ret pg 885 [P.av aD.av,Q.av aD.av] (.bool (aN P.es&&aN Q.es&&((P.es.all λx => !decide (ck Q.es x.bs<x.c))&&Q.es.all λy => !decide (y.c<ck P.es y.bs)))))
  (h886:∀P:Sl aD,j0 P.es<=1000->fT pg 886 [P.av aD.av] (λr=>∃ns:List Str,x7 1 false (ns.map Str.av) r/\ns.length<=j0 P.es))
  (h887:∀(P:Sl aD)(nl cl:Bool)(vs:List Val),vs.length<=big->fT pg 887 [P.av aD.av,.sl nl (vs.map Val.av) cl] (λr=>∃a e,r = .tup [.int .i64 a,.int .i64 e]/\(e=0->aN P.es=true/\a=yQ vs P.es))) :
  Ret pg 881 [P.av aD.av,Q.av aD.av,.agg (ks.map u8A)] (.bool true):=by
 have tp:∀P:Sl aD,(P.av aD.av).tree=true:=by
  intro P
  have:=aQ (f:=aD.av) (λx=>by
   have:=aQ (f:=Str.av) (λ_=>rfl) x.vs.es;simp only[aD.av,Sl.av];simp only[this,go_sem,seval]) P.es
  simp only[Sl.av,this,go_sem,seval]
 have hD:(aN P.es&&aN Q.es&&(pE P.es Q.es&&n7 P.es Q.es))=(aN P.es&&aN Q.es&&((P.es.all λx => !decide (ck Q.es x.bs<x.c))&&Q.es.all λy => !decide (y.c<ck P.es y.bs))):=by cases v3:aN P.es;rfl;cases v4:aN Q.es;rfl;rw[VB v3 v4]
 rw[hD]at h675;generalize hDD:(aN P.es&&aN Q.es&&((P.es.all λx => !decide (ck Q.es x.bs<x.c))&&Q.es.all λy => !decide (y.c<ck P.es y.bs)))=D at h675 h885;have tP:=tp P;have tQ:=tp Q;generalize hPA:P.av aD.av=PA at *;generalize hQA:Q.av aD.av=QA at *;obtain⟨k0,k1,k2,k3,rfl⟩:∃a b c d,ks=[a,b,c,d]:=by
  match ks,hk4 with
  |[a,b,c,d],_=>exact⟨a,b,c,d,rfl⟩
 refine Ret.ofX hf ?_;unfold z7;simp only[List.map_cons,List.map_nil,u8A,go_sem,seval];refine bQ h662 rfl rfl (Wk ?_);refine bQ (hPA ▸ h884 P 8) (by simp only[treeL,tP,p8,Bool.and_true]) rfl ?_;cases v1:rB P.es 8
 case false=>simp only[go_sem,seval]
 refine Wk ?_;refine bQ (hQA ▸ h884 Q 8) (by simp only[treeL,tQ,p8,Bool.and_true]) rfl ?_;cases v2:rB Q.es 8
 case false=>simp only[go_sem,seval]
 refine Wk ?_;refine bQ h675 (by simp only[treeL,tP,tQ,Bool.and_true]) rfl (Wk ?_);refine bQ h885 (by simp only[treeL,tP,tQ,Bool.and_true]) rfl ?_;cases D
 case false=>simp only[go_sem,seval]
 have hDD':=hDD;simp only[aA]at hDD';obtain⟨⟨pOK,qOK⟩,hdom⟩:=hDD'
 have hdom':((P.es.all λx => !decide (ck Q.es x.bs<x.c))&&Q.es.all λy => !decide (y.c<ck P.es y.bs))=true:=by simp only[aA];exact hdom
 refine Wk ?_;have b1:=zI v1;have b2:=zI v2;obtain⟨r1,hr1,ns,hns,hnl⟩:=h886 P (by omega);rw[hPA]at hr1;refine WI (kb:=0) (s:=25) ⟨r1,hr1,hns⟩ (by simp only[treeL,tP,Bool.and_true]) (El.strs _) ?_;intro v25 rd25 pa25 o25 hh25 hp25;have g25:=hh25 1 (by decide);generalize hE25:Eff.app _ (.pat rd25 pa25)=h25 at o25 hh25 g25 ⊢;refine Wk ?_;obtain⟨r2,hr2,ms,hms,hml⟩:=h886 Q (by omega);rw[hQA]at hr2;refine JJ (kb:=0) (s:=29) ⟨r2,hr2,hms⟩ (by simp only[treeL,tQ,Bool.and_true]) ?_;intro nl2 cl2 _;refine Wk ?_;refine jW (kb:=0) (s:=33) o25 (lD.sl (El.strs _)) (El.strs _) (by simp;omega) (by decide) ?_;intro v33 k33 rd33 pa33 hk33 o33 hh33 hp33;have g33:=(hh33 1 (by decide) (by decide)).trans g25;rw[<-List.map_append]at o33;generalize Eff.app h25 (.pat rd33 pa33)=h33 at o33 hh33 g33 ⊢;generalize hnm:ns++ms=nm at o33;have hnml:nm.length<=160:=by rw[<-hnm];simp;omega
 have gb:h33.get 1=some (0,.blk [.int .u8 k0,.int .u8 k1,.int .u8 k2,.int .u8 k3] 4 true true false):=g33.trans rfl;refine Wk ?_;refine bD nm (λd r env hp=>∃w,∃vs:List Val,env=xB PA QA (.pt 1 0 0) v33 w (.int .i64 d.length)/\Own hp 37 2 true w (vs.map Val.av)/\vs.length=d.length/\(∀v∈vs,0<=v.n)/\hp.get 1=some (0,.blk [.int .u8 k0,.int .u8 k1,.int .u8 k2,.int .u8 k3] 4 true true false)/\Own hp k33 1 false v33 (nm.map Str.av)) ?_ ?_ ?_;exact⟨_,[],rfl,Own.nil _ _ _ _ _ _ rfl,rfl,by simp,gb,o33⟩;rintro env hp ⟨w,vs,rfl,ow,hvl,hv0,_,_⟩;have hfl:∀h',oX h' 1 [v33]=some (.int .i64 nm.length,.pat [] []):=by intro h';have:=o33.flen h';rwa [aE]at this
 have e1:decide ((nm.length:Int)<(nm.length:Int))=false:=by simp
 simp only[w9,xB,e1,↓hfl,go_sem,seval];obtain⟨nl8,cl8,keys,hsn,_⟩:=ow.snap (El.vals _) 62;have hvb:vs.length<=big:=by simp only[big];omega
 have tP2:∀h d,snap (d+1) h PA=some (PA,[]):=by intro h d;unfold snap;rw[if_pos tP]
 have tQ2:∀h d,snap (d+1) h QA=some (QA,[]):=by intro h d;unfold snap;rw[if_pos tQ]
 obtain⟨r3,h3,x,e,rfl,hx⟩:=h887 P nl8 cl8 vs hvb;rw[hPA]at h3;obtain⟨r4,h4,y,f,rfl,hy⟩:=h887 Q nl8 cl8 vs hvb;rw[hQA]at h4;refine iX (keys:=keys) h3 (by simp only[depth,kH,jG,tP2,↓hsn,go_sem,seval]) (v:=.tup [.int .i64 x,.int .i64 e]) (pa:=[]) rfl ?_;rw[show (if (AV.tup [AV.int .i64 x,AV.int .i64 e]).flat=true then [] else bE hp keys)=[] from rfl];refine Wk ?_;refine iX (keys:=keys) h4 (by simp only[depth,kH,jG,tQ2,↓hsn,go_sem,seval]) (v:=.tup [.int .i64 y,.int .i64 f]) (pa:=[]) rfl ?_;cases he:decide (e=0)
 case false=>simp only[he,go_sem,seval]
 have he0:=bU he;cases hf0:decide (f=0)
 case false=>simp only[he,hf0,go_sem,seval]
 have hf1:=bU hf0;have hle:decide (x<=y)=true:=by rw[(hx he0).2,(hy hf1).2];exact decide_eq_true (VA pOK qOK hv0 hdom')
 simp only[he,hf0,hle,go_sem,seval];rintro d s r env hp hes ⟨w,vs,rfl,ow,hvl,hv0,hg1,on⟩;have hfl:∀h',oX h' 1 [v33]=some (.int .i64 nm.length,.pat [] []):=by intro h';have:=o33.flen h';rwa [aE]at this
 have hs:nm[d.length]?=some s:=by rw[hes];simp
 have hs1:nm[0+d.length*1]?=some s:=by simpa using hs
 have hdl:d.length<nm.length:=by rw[hes];simp
 have e1:decide ((d.length:Int)<(nm.length:Int))=true:=by simpa using hdl
 have hq:(0:Int)<=(d.length:Int)/\(d.length:Int)<(nm.length:Int):=⟨by omega,by omega⟩
 rcases on.strs with ⟨hh,_⟩|⟨e33,hv33,hgn⟩
 rw[hh]at hs;simp at hs;rw[hv33]at hfl;have hm:0<=(d.length:Int).tmod 4/\(d.length:Int).tmod 4<4:=by rw[Int.tmod_eq_emod_of_nonneg (by omega)];omega
 obtain⟨k,hk,hk0⟩:∃k,[AV.int .u8 k0,.int .u8 k1,.int .u8 k2,.int .u8 k3][0+((d.length:Int).tmod 4).toNat*1]?=some (.int .u8 k)/\0<=k/\k<=255:=by
  generalize (d.length:Int).tmod 4=m at hm;obtain⟨j,rfl⟩:=eC hm.1;have hj:j<4:=by omega
  simp only[Int.toNat_natCast,Nat.mul_one,Nat.zero_add]
  match j,hj with
  |0,_=>exact⟨k0,rfl,hku k0 (by simp)⟩
  |1,_=>exact⟨k1,rfl,hku k1 (by simp)⟩
  |2,_=>exact⟨k2,rfl,hku k2 (by simp)⟩
  |3,_=>exact⟨k3,rfl,hku k3 (by simp)⟩
 have hw:wr .i64 k=k:=by simp only[wr];rw[if_pos ⟨by omega,by omega⟩]
 have hn0:0<=k.tmod 21:=Int.tmod_nonneg _ hk0.1;have hbig:(d++s::r).length<=big:=by rw[<-hes];simp only[big];omega
 simp only[w9,xB,e1,hv33,↓hfl,hq,hgn,List.getElem?_map,hs1,Option.map_some,Str.av,hm,hg1,hk,hw,go_sem,seval];refine x4 (kb:=0) (s:=37) ow (El.vals _) (xs:=[.agg [.str s.bs,.int .i64 (k.tmod 21)]]) (by intro q hq;simp at hq;subst hq;exact⟨rfl,rfl,rfl⟩) (by simp;omega) (by decide) ?_;intro v37 rd37 pa37 o37 hh37 hp37;have g1:=(hh37 1 (by decide)).trans hg1;have gn:=hh37 k33 (by omega);generalize Eff.app hp (.pat rd37 pa37)=h37 at o37 hh37 g1 gn ⊢;simp only[bI hbig,go_sem,seval];refine⟨by simp[eL,gE,R.apart,R.uses,X.tmp,Eff.apart,m9,qQ,Nat.testBit],v37,vs++[⟨s,k.tmod 21⟩],by rw[hv33];rfl,?_,by simp[hvl],?_,g1,on.mono gn⟩;rw[List.map_append];exact o37;intro v hv;rcases fK.1 hv with hv|hv;exact hv0 v hv;simp at hv;subst hv;exact hn0
end
end
section
structure CodeDm(pg:Pg):Prop where
 f57:pg.fs 57=some IX
 f77:pg.fs 77=some IW
 f91:pg.fs 91=some E5
 f95:pg.fs 95=some IU
 f114:pg.fs 114=some uV
 f115:pg.fs 115=some uT
 f126:pg.fs 126=some rT
 f137:pg.fs 137=some uQ
 f500:pg.fs 500=some rS
 f528:pg.fs 528=some lM
 f675:pg.fs 675=some AB
 f690:pg.fs 690=some AA
 f692:pg.fs 692=some z8
 f693:pg.fs 693=some uP
 f700:pg.fs 700=some uO
 f701:pg.fs 701=some uN
 f702:pg.fs 702=some uM
 f703:pg.fs 703=some uL
 f711:pg.fs 711=some rR
 f881:pg.fs 881=some z7
 f884:pg.fs 884=some z6
 f885:pg.fs 885=some zZ
 f886:pg.fs 886=some zY
 f887:pg.fs 887=some zX
 f892:pg.fs 892=some uK
 f893:pg.fs 893=some kN
 f894:pg.fs 894=some uJ
 f895:pg.fs 895=some zW
 f900:pg.fs 900=some rQ
 f901:pg.fs 901=some rP
 f902:pg.fs 902=some uH
 f906:pg.fs 906=some o6
 f907:pg.fs 907=some oZ
section
variable{pg:Pg}
theorem V9(C:CodeDm pg)(A:XM pg)(h522:pg.fs 522=none)(he:pg.ex 522=some jC)(h662:Ret pg 662 [] (.bool true))(P Q:Sl aD)(ks:List Int)(hk4:ks.length=4)(hku:∀k∈ks,0<=k/\k<=255) :
  Ret pg 881 [P.av aD.av,Q.av aD.av,.agg (ks.map u8A)] (.bool true):=by
 have h57:∀s:Str,Ret pg 57 [.str s.bs] (.bool (cJ s.bs)):=aFp A C.f57 C.f91 C.f126;have h77:∀s:Str,Ret pg 77 [.str s.bs] (.bool (cJ s.bs)):=λs=>c77 C.f77 C.f114 C.f115 s.bs s.ok;have h690:∀P:Sl aD,Ret pg 690 [.sl P.nl (P.es.map aD.av) P.cl] (.bool (aN P.es)):=c690 C.f690 h77 C.f700;have h692:∀P:Sl aD,Ret pg 692 [.sl P.nl (P.es.map aD.av) P.cl] (.bool (aN P.es)):=c692 C.f692 h57 C.f95 C.f137 C.f500 C.f528 C.f701 C.f702 C.f703 C.f711
 exact c881 C.f881 h662 P Q ks hk4 hku (c884 C.f884) (c675 C.f675 h522 he C.f693 P Q h692 (λP hP=>s8 hP)) (c885 C.f885 C.f892 C.f900 P Q h690)
  (λP hv=>c886 C.f886 h690 P hv) (λP nl cl vs hvb=>c887 C.f887 h690 C.f893 C.f894 C.f901 (λnl cl ls hb=>c895 C.f895 C.f902 C.f893 C.f906 C.f907 nl cl ls hb) P nl cl vs hvb)
end
end
end Go.Tev
