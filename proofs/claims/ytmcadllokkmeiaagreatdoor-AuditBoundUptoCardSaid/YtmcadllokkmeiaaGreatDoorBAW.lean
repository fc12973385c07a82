import Derived.Test.YtmcadllokkmeiaaGreatDoorBAS
set_option linter.all false
section
namespace Go.Tev
section
variable{pg:Pg}
set_option maxRecDepth 8000 in
set_option maxHeartbeats 16000000 in
theorem aQG(hf:pg.fs 44=some HX)
  (h63:∀(k:aA)(nl cl:Bool)(there:List Bool)(m:Int),∀p:aC,p.ok->Ret pg 63 [.fp (.agg (iJ k nl cl there m)),p.av] (.bool (fO k.aSe.es p)))
  (h64:∀(nl cl:Bool)(code:List aP),code.length<=16777216->∀(nl' cl':Bool)(args:List Bool),args.length<=16777216->(nl'=true->args=[])->Ret pg 64 [.sl nl (code.map aP.av) cl,.sl nl' (args.map AV.bool) cl'] (.bool (fD code args)))
  (h65:∀a b:Typ,Ret pg 65 [a.av,b.av] (.bool (jH a b)))
  (h66:∀p:aC,p.ok->Ret pg 66 [p.av] (.bool (fH p EO)))
  (h67:∀(nl cl nl' cl':Bool)(es es':List Lin),es.length<=big->Ret pg 67 [.sl nl (es.map Lin.av) cl,.sl nl' (es'.map Lin.av) cl',.fn 68 []] (.bool (eqL cN es es')))
  (h69:∀(k:aA),(k.vars.nl=true->k.vars.es=[])->∀(nl cl:Bool)(there:List Bool),there.length=k.aSe.es.length->∀(m:Int)(p:aC),p.ok->∀n:Nat,n<=9->k.vars.es.length+n+p.sz<=big->∀nt:Int,
   Ret pg 69 [.fp (.agg (iJ k nl cl there m)),p.av,.int .i64 n,.int .i64 nt] (.bool (gB k there p n nt)))
  (h70:∀(nl cl:Bool)(fn:List aP),fn.length<=big->∀n:Int,Ret pg 70 [.sl nl (fn.map aP.av) cl,.int .i64 n] (.bool (eO fn n)))
  (k:aA) (hnl:k.vars.nl=true->k.vars.es=[]) (hin:0<=k.aSg) (hvals:∀t∈k.aSe.es,t.aSh.aSi.es.length<=6) (nl cl:Bool) (there:List Bool) (hth:there.length=k.aSe.es.length) (m:Int) (i:Nat) (q:aG) (hq:k.aSf.es[i]?=some q)
  (hown:there[q.value.toNat]?=some true) (hbo:q.body.ok) (hio:q.index.ok) (hbs:k.vars.es.length+9+q.body.sz<=big) (his:k.vars.es.length+9+q.index.sz<=big) :
  Ret pg 44 [.fp (.agg (iJ k nl cl there m)),.int .i64 i] (.bool (cO k there q i)):=by
 refine Ret.ofX hf ?_;unfold HX;have htr:treeL (iJ k nl cl there m)=true:=by simp only[iJ];simp only[go_sem,seval]
 simp only[iJ,hq,go_sem,seval];cases a1:decide (q.value<k.aSg)
 case true=>refine Wk ?_;refine aY ?_;simp only[cO,y9,a1];rfl
 cases a2:decide ((k.aSe.es.length:Int)<=q.value)
 case true=>simp only[a2,go_sem,seval];refine aY ?_;simp only[cO,y9,a1,a2];rfl
 cases a3:decide (q.check<0)
 case true=>simp only[a2,a3,go_sem,seval];refine aY ?_;simp only[cO,y9,a1,a2,a3];rfl
 have hv0:0<=q.value:=by simp at a1;omega
 have hv1:q.value.toNat<k.aSe.es.length:=by simp at a2;omega
 obtain⟨t,ht⟩:∃t,k.aSe.es[q.value.toNat]?=some t:=⟨_,aW hv1⟩
 have hv0':(0<=q.value)=True:=aK hv0;have hok:cO k there q i=(!nN k.aSe.es q t && !(bS there q.value&&LL k q i) && !(if decide (q.kind=3) then AA k there q t else qP q) &&
   eqL cN q.space.es (u6 q t)&&xY k there q (u6 q t).length (if bS there q.value then q.value else -1)):=by
  simp only[cO,y9,a1,a2,a3,ht];rfl
 rw[hok];have hd6:t.aSh.aSi.es.length<=6:=hvals t (List.mem_of_getElem? ht);simp only[a2,a3,go_sem,seval];refine aY ?_;simp only[hv0',ht,go_sem,seval];have b1:=h63 k nl cl there m q.body hbo;rw[aC.avc]at b1;have b2:∀c:Bool,Ret pg 64 [.sl q.fn.nl (q.fn.es.map aP.av) q.fn.cl,.sl false [.bool true,.bool true] c] (.bool (fD q.fn.es [true,true])):=λc=>h64 q.fn.nl q.fn.cl q.fn.es q.fn.ok false c [true,true] (by simp) (by simp);have b3:∀u:Typ,Ret pg 65 [u.av,t.av] (.bool (jH u t)):=λu=>h65 u t;have b4:=h66 q.index hio;rw[aC.avc]at b4;have b5:∀(nl' cl':Bool)(es':List Lin),Ret pg 67 [.sl q.space.nl (q.space.es.map Lin.av) q.space.cl,.sl nl' (es'.map Lin.av) cl',.fn 68 []] (.bool (eqL cN q.space.es es')):=
  λnl' cl' es'=>h67 _ _ nl' cl' _ es' q.space.ok
 have b6:∀n:Nat,n<=9->∀nt:Int,Ret pg 69 [.fp (.agg (iJ k nl cl there m)),q.body.av,.int .i64 n,.int .i64 nt] (.bool (gB k there q.body n nt)):=
  λn hn nt=>h69 k hnl nl cl there hth m q.body hbo n hn (by omega) nt
 have b7:∀n:Nat,n<=9->∀nt:Int,Ret pg 69 [.fp (.agg (iJ k nl cl there m)),q.index.av,.int .i64 n,.int .i64 nt] (.bool (gB k there q.index n nt)):=
  λn hn nt=>h69 k hnl nl cl there hth m q.index hio n hn (by omega) nt
 rw[aC.avc]at b6 b7;have b8:=h70 q.fn.nl q.fn.cl q.fn.es q.fn.ok 2;clear h63 h64 h65 h66 h67 h69 h70;have s0:decide (q.source<0)=false->(0<=q.source)=True:=λh=>aK (by simpa using h);obtain⟨u,hu⟩:∃u,decide (q.source<0)=false->decide ((k.aSe.es.length:Int)<=q.source)=false->k.aSe.es[q.source.toNat]?=some u:=by by_cases hh:q.source.toNat<k.aSe.es.length;exact⟨_,λ_ _=>aW hh⟩;exact⟨t,λx y=>by simp at x y;omega⟩
 obtain⟨su,hsu⟩:∃u,decide (q.source<0)=false->decide ((k.aSe.es.length:Int)<=q.source)=false->there[q.source.toNat]?=some u:=by by_cases hh:q.source.toNat<there.length;exact⟨_,λ_ _=>aW hh⟩;exact⟨true,λx y=>by simp at x y;omega⟩
 have hib:i<=big:=by have:=(cJ.1 hq).1;have:=k.aSf.ok;omega
 have hi0:decide ((i:Int)=0)=false->(0<=(i:Int)-1)=True:=λh=>aK (by simp at h;omega);have hi1:wr .i64 ((i:Int)-1)=(i:Int)-1:=aU (by omega) (by simp[big]at hib;omega);obtain⟨r,hr⟩:∃r,decide ((i:Int)=0)=false->k.aSf.es[((i:Int)-1).toNat]?=some r:=by
  by_cases hh:i=0;exact⟨q,λh=>by simp[hh]at h⟩;have h1:=(cJ.1 hq).1;have h2:((i:Int)-1).toNat<k.aSf.es.length:=by omega
  exact⟨_,λ_=>aW h2⟩
 have howB:bS there q.value=true:=by simp[bS,hown]
 obtain⟨c,hsl⟩:=FF 2 t.aSh.aSi.nl t.aSh.aSi.cl (t.aSh.aSi.es.map Lin.av) (by simpa using t.aSh.aSi.ok) (by simp[Lin.cells_av]);rw[<-List.map_dropLast]at hsl;simp only[aM]at hsl;have hd5:t.aSh.aSi.es.dropLast.length<=9:=by simp;omega
 have hd7:t.aSh.aSi.es.length<=9:=by omega
 have hsu':decide (q.source<0)=false->decide ((k.aSe.es.length:Int)<=q.source)=false->bS there q.source=su:=λa b=>by simp[bS,hsu a b]
 clear hvals hnl hth his hbs hbo hio hib hv1
 repeat' (first|simp only[↓hsl, *,go_sem,seval]|refine bB (λ_=>?_) (λ_=>?_)|refine bD (λ_=>?_) (λ_=>?_)|(refine aB b1 ?_)|(refine aB (b2 _) ?_)|(refine aB (b3 _) ?_)|(refine aB b4 ?_)|(refine aB (b5 _ _ _) ?_)|(refine aB b8 ?_)|(refine aB (b6 _ hd7 _) ?_)|(refine aB (b6 _ hd5 _) ?_)|(refine aB (b7 _ hd5 _) ?_)|refine aY ?_)
 all_goals (clear hf b1 b2 b3 b4 b5 b6 b7 b8 hsl)
 all_goals (clear s0 hi0 hi1 hd5 hd7 hd6)
 all_goals (first|(simp only[nN,LL,AA,qP,u6,xY, *];done)|(simp only[nN,LL,AA,qP,u6,xY];simp_all;done)|skip)
end
end Go.Tev
end
