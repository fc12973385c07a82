import Derived.Test.YtmcadllokkmeiaaGreatDoorBBA
import Derived.Test.YtmcadllokkmeiaaGreatDoorBAS
set_option linter.all false
section
namespace Go.Tev
theorem gN{h:Hp}{k e n:Nat}{l:List Bool}{t:Bool}(hn:n=l.length)(hg:h.get k=some (e,.blk (l.map AV.bool) 1 false t false))(d:Nat):Tev.snap (d+2) h (.rf k e 0 n n)=some (.sl false (l.map AV.bool) t,[k]):=by subst hn;obtain⟨cs',h1,h2,h3,h4⟩:=eD (El.bools l);rw[eP]at h1;cases h1;have h5:=h4 [];rw[List.append_nil,aM]at h5;have h6:eN (Tev.snap (d+1) h) (l.map AV.bool)=some (l.map AV.bool,[]):=fI d h (oS l);rw[fE];simp[hg,h5,h6,AV.tree]
section
variable{pg:Pg}
set_option maxRecDepth 8000 in
set_option maxHeartbeats 4000000 in
theorem c50(hf:pg.fs 50=some aDO)(h82:pg.fs 82=some aAJ)(h81:∀x y:aG,x.body.ok->x.index.ok->Ret pg 81 [x.av,y.av] (.bool (mB x y)))
  (h83:∀(nl cl:Bool)(vals:List Typ)(p:aC),p.ok->Ret pg 83 [p.av,.sl nl (vals.map Typ.av) cl] (.bool (fO vals p)))
  (h84:∀(nl cl:Bool)(code:List aP),code.length<=16777216->∀(nl' cl':Bool)(args:List Bool),args.length<=16777216->Ret pg 84 [.sl nl (code.map aP.av) cl,.sl nl' (args.map AV.bool) cl'] (.bool (fD code args)))
  (h85:∀(nl cl nl' cl':Bool)(a b:List Lin),a.length<=big->b.length<=big->Ret pg 85 [.sl nl (a.map Lin.av) cl,.sl nl' (b.map Lin.av) cl'] (.bool (eqL cN a b)))
  (h86:∀(k:aA)(p:aC),p.ok->∀n:Nat,n<=9->k.vars.es.length+n+p.sz<=big->∀(nl cl:Bool)(there:List Bool),there.length=k.aSe.es.length->Ret pg 86 [p.av,k.av,.int .i64 n,.sl nl (there.map AV.bool) cl] (.bool (cU k p n there)))
  (h87:∀(nl cl:Bool)(fn:List aP),fn.length<=big->∀n:Int,Ret pg 87 [.sl nl (fn.map aP.av) cl,.int .i64 n] (.bool (eO fn n)))
  (h88:∀a b:Typ,Ret pg 88 [a.av,b.av] (.bool (jH a b)))
  (k:aA) (hin:0<=k.aSg) (hvals:∀t∈k.aSe.es,t.aSh.aSi.es.length<=6) (nl cl:Bool) (th:List Bool) (hth:th.length=k.aSe.es.length) (q:aG) (second:Bool)
  (hbo:q.body.ok) (hio:q.index.ok) (hbs:k.vars.es.length+9+q.body.sz<=big) (his:k.vars.es.length+9+q.index.sz<=big) :
  Ret pg 50 [k.av,q.av,.sl nl (th.map AV.bool) cl,.bool second] (.bool (mT k q th second)):=by
 have a82:=c82 h82 q;have a81:=h81 q (zU q) hbo hio;rw[aG.avc q]at a82 a81;refine Ret.ofX hf ?_;unfold aDO;cases v1:decide (q.value<k.aSg)
 case true=>simp only[aA.av,aA.cells,v1,go_sem,seval];refine aY ?_;simp[mT,v1]
 case false=>
 cases v2:decide ((k.aSe.es.length:Int)<=q.value)
 case true=>simp only[aA.av,aA.cells,v1,v2,go_sem,seval];refine aY ?_;simp[mT,v1,v2]
 case false=>
 simp only[aA.av,aA.cells,v1,v2,go_sem,seval];refine aB a82 (Wk ?_);refine aB a81 ?_;cases hke:mB q (zU q)
 case false=>refine Wk ?_;refine aY ?_;simp[mT,v1,v2,hke]
 case true=>
 have hv0:0<=q.value:=by simp at v1;omega
 have hvl:q.value<(k.aSe.es.length:Int):=by simp at v2;omega
 have hv0':(0<=q.value)=True:=aK hv0;have hvlt:(q.value<(th.length:Int))=True:=aK (by omega);have hthb:th.length<=big:=by rw[hth];exact k.aSe.ok
 obtain⟨t,ht⟩:∃t,k.aSe.es[q.value.toNat]?=some t:=⟨_,aW (by omega)⟩
 obtain⟨own,hto⟩:∃b,th[q.value.toNat]?=some b:=⟨_,aW (by omega)⟩
 have hoB:bS th q.value=own:=by simp[bS,hto]
 have hd6:t.aSh.aSi.es.length<=6:=hvals t (List.mem_of_getElem? ht);have hspec:mT k q th second=(!nN k.aSe.es q t &&
  (if decide (q.kind=1) then !own&&(eqL cN q.space.es t.aSh.aSi.es&&cU k q.body t.aSh.aSi.es.length th)
  else if decide (q.kind=2) then !own&&(decide (0<(t.aSh.aSi.es.length:Int))&&(eqL cN q.space.es t.aSh.aSi.es&&(cU k q.body t.aSh.aSi.es.length th&&eO q.fn.es 2)))
  else if decide (q.kind=3) then
   !decide ((t.aSh.aSi.es.length:Int)=0)&&(eqL cN q.space.es t.aSh.aSi.es.dropLast&&(!decide (q.check<0)&&(!decide (q.source<0)&&(!decide ((k.aSe.es.length:Int)<=q.source)&&(bS th q.source &&
   ((own==decide (q.source=q.value))&&(!(own && !second)&&((match k.aSe.es[q.source.toNat]? with|none=>false|some u=>jH u t) &&
   (cU k q.body (t.aSh.aSi.es.length-1) (th.set q.value.toNat false)&&cU k q.index (t.aSh.aSi.es.length-1) (th.set q.value.toNat false))))))))))
  else false)):=by
  simp only[mT,v1,v2,hke,ht,hoB];rfl
 rw[hspec];clear hspec a82 a81 h82 h81;have a83:=h83 k.aSe.nl k.aSe.cl k.aSe.es q.body hbo;rw[aC.avc]at a83;have a84:∀c:Bool,Ret pg 84 [.sl q.fn.nl (q.fn.es.map aP.av) q.fn.cl,.sl false [.bool true,.bool true] c] (.bool (fD q.fn.es [true,true])):=λc=>h84 q.fn.nl q.fn.cl q.fn.es q.fn.ok false c [true,true] (by simp);have a85:=h85 q.space.nl q.space.cl t.aSh.aSi.nl t.aSh.aSi.cl q.space.es t.aSh.aSi.es q.space.ok t.aSh.aSi.ok;have a86:=h86 k q.body hbo t.aSh.aSi.es.length (by omega) (by omega) nl cl th hth;rw[aC.avc]at a86;simp only[aA.av,aA.cells,Sl.av]at a86;have a87:=h87 q.fn.nl q.fn.cl q.fn.es q.fn.ok 2;obtain⟨c,hsl⟩:=FF 2 t.aSh.aSi.nl t.aSh.aSi.cl (t.aSh.aSi.es.map Lin.av) (by simpa using t.aSh.aSi.ok) (by simp[Lin.cells_av]);rw[<-List.map_dropLast]at hsl;simp only[aM]at hsl;have a85d:=h85 q.space.nl q.space.cl t.aSh.aSi.nl c q.space.es t.aSh.aSi.es.dropLast q.space.ok (by have:=t.aSh.aSi.ok;simp;omega);have hw:decide ((t.aSh.aSi.es.length:Int)=0)=false->wr .i64 ((t.aSh.aSi.es.length:Int)-1)=((t.aSh.aSi.es.length-1:Nat):Int):=by intro h;have h:=bW h;rw[aU (by omega) (by omega)];omega
 have hB:=fun(p:aC)(hp:p.ok)(hs:k.vars.es.length+9+p.sz<=big)(nl cl:Bool)=>h86 k p hp (t.aSh.aSi.es.length-1) (by omega) (by omega) nl cl (th.set q.value.toNat false) (by rw[List.length_set,hth]);clear h83 h84 h85 h86 h87;refine Wk ?_;refine aY ?_;cases e1:decide (t.aSl.bs=[98,111,111,108])
 case false=>
  have hkb:nN k.aSe.es q t=false:=by simp[nN,e1]
  rw[hkb];simp only[hv0',ht,hto,e1,go_sem,seval];cases k1:decide (q.kind=1)
  case true=>refine Wk ?_;cases own;simp only[hv0',ht,hto,k1,go_sem,seval];refine aB a85 ?_;cases de:eqL cN q.space.es t.aSh.aSi.es;simp only[go_sem,seval];simp only[hv0',ht,hto,go_sem,seval];refine aB a86 ?_;simp only[go_sem,seval];simp only[hv0',ht,hto,k1,go_sem,seval]
  case false=>
  cases k2:decide (q.kind=2)
  case true=>refine Wk ?_;cases own;cases r0:decide (0<(t.aSh.aSi.es.length:Int));simp only[hv0',ht,hto,k1,k2,r0,go_sem,seval];simp only[hv0',ht,hto,k1,k2,r0,go_sem,seval];refine aB a85 ?_;cases de:eqL cN q.space.es t.aSh.aSi.es;simp only[go_sem,seval];simp only[hv0',ht,hto,go_sem,seval];refine aB a86 ?_;cases rp:cU k q.body t.aSh.aSi.es.length th;simp only[go_sem,seval];simp only[hv0',ht,hto,go_sem,seval];refine aB a87 ?_;simp only[go_sem,seval];simp only[hv0',ht,hto,k1,k2,go_sem,seval]
  case false=>
  cases k3:decide (q.kind=3)
  case false=>simp only[hv0',ht,hto,k1,k2,k3,go_sem,seval]
  case true=>
   refine Wk ?_;cases r0:decide ((t.aSh.aSi.es.length:Int)=0)
   case true=>simp only[hv0',ht,hto,k1,k2,k3,r0,go_sem,seval];kernel_rfl
   case false=>
   have hsl:=hsl r0;have hw:=hw r0;simp only[hw]at hsl;simp only[hv0',ht,hto,k1,k2,k3,r0,hw,↓hsl,go_sem,seval];refine aB a85d ?_;cases de:eqL cN q.space.es t.aSh.aSi.es.dropLast
   case false=>simp only[hv0',ht,hto,k1,k2,k3,r0,hw,↓hsl,go_sem,seval];kernel_rfl
   case true=>
   cases c1:decide (q.check<0)
   case true=>simp only[hv0',ht,hto,k1,k2,k3,r0,hw,↓hsl,c1,go_sem,seval];kernel_rfl
   case false=>
   cases s1:decide (q.source<0)
   case true=>simp only[hv0',ht,hto,k1,k2,k3,r0,hw,↓hsl,c1,s1,go_sem,seval];kernel_rfl
   case false=>
   cases s2:decide ((k.aSe.es.length:Int)<=q.source)
   case true=>simp only[hv0',ht,hto,k1,k2,k3,r0,hw,↓hsl,c1,s1,s2,go_sem,seval];kernel_rfl
   case false=>
   have s0:(0<=q.source)=True:=aK (by simp at s1;omega);obtain⟨su,hsu⟩:∃u,th[q.source.toNat]?=some u:=⟨_,aW (by simp at s1 s2;omega)⟩
   obtain⟨u,hu⟩:∃u,k.aSe.es[q.source.toNat]?=some u:=⟨_,aW (by simp at s1 s2;omega)⟩
   have hsB:bS th q.source=su:=by simp[bS,hsu]
   rw[hsB,hu];dsimp only;cases su
   case false=>simp only[hv0',ht,hto,k1,k2,k3,r0,hw,↓hsl,c1,s1,s2,s0,hsu,go_sem,seval];kernel_rfl
   case true=>
   cases sv:(own==decide (q.source=q.value))
   case false=>simp only[hv0',ht,hto,k1,k2,k3,r0,hw,↓hsl,c1,s1,s2,s0,hsu,sv,go_sem,seval];kernel_rfl
   case true=>
   have b88:=h88 u t;cases own
   case true=>
    cases second
    case false=>simp only[hv0',ht,hto,k1,k2,k3,r0,hw,↓hsl,c1,s1,s2,s0,hsu,sv,go_sem,seval];kernel_rfl
    case true=>
     simp only[hv0',ht,hto,k1,k2,k3,r0,hw,↓hsl,c1,s1,s2,s0,hsu,sv,hu,go_sem,seval];refine aB b88 ?_;cases te:jH u t
     case false=>simp only[hv0',ht,hto,k1,k2,k3,r0,hw,↓hsl,go_sem,seval];kernel_rfl
     case true=>
      simp only[hv0',ht,hto,k1,k2,k3,r0,hw,↓hsl,go_sem,seval];refine aY ?_;refine kD (El.bools th) (by simp only[aM];simp only[big]at hthb;omega) (by decide) (λhe=>?_) (λhe cs hcs=>?_);have:th=[]:=by simpa using he
      rw[this]at hto;simp at hto;rw[eP]at hcs;cases hcs;have hset:List.take q.value.toNat (List.map AV.bool th)++[AV.bool false]++List.drop (q.value.toNat+1) (List.map AV.bool th)=(th.set q.value.toNat false).map AV.bool:=by rw[<-gI];have:=rW (AV.bool false) (l:=th.map AV.bool) (n:=q.value.toNat) (by simp;omega);simpa using this
      have hle:(q.value.toNat+1<=th.length)=True:=aK (by omega);simp only[hv0',hvlt,hset,hle,Nat.mul_one,bF,hw,go_sem,seval];have b1:=hB q.body hbo hbs false false;have b2:=hB q.index hio his false false;rw[aC.avc]at b1 b2;simp only[aA.av,aA.cells,Sl.av]at b1 b2;refine cR b1 (mK (by simp only[go_sem,seval]) (by simp only[go_sem,seval]) (by simp only[go_sem,seval]) (gN (l:=th.set q.value.toNat false) (by simp) rfl 62)) (v:=.bool (cU k q.body (t.aSh.aSi.es.length-1) (th.set q.value.toNat false))) (pa:=[]) rfl ?_;cases rp:cU k q.body (t.aSh.aSi.es.length-1) (th.set q.value.toNat false);simp only[go_sem,seval];simp only[hw,go_sem,seval];refine cR b2 (mK (by simp only[go_sem,seval]) (by simp only[go_sem,seval]) (by simp only[go_sem,seval]) (gN (l:=th.set q.value.toNat false) (by simp) rfl 62)) (v:=.bool (cU k q.index (t.aSh.aSi.es.length-1) (th.set q.value.toNat false))) (pa:=[]) rfl ?_;simp only[go_sem,seval]
   case false=>
    simp only[hv0',ht,hto,k1,k2,k3,r0,hw,↓hsl,c1,s1,s2,s0,hsu,sv,hu,go_sem,seval];refine aB b88 ?_;cases te:jH u t
    case false=>simp only[hv0',ht,hto,k1,k2,k3,r0,hw,↓hsl,go_sem,seval];kernel_rfl
    case true=>
     simp only[hv0',ht,hto,k1,k2,k3,r0,hw,↓hsl,go_sem,seval];refine aY ?_;refine kD (El.bools th) (by simp only[aM];simp only[big]at hthb;omega) (by decide) (λhe=>?_) (λhe cs hcs=>?_);have:th=[]:=by simpa using he
     rw[this]at hto;simp at hto;rw[eP]at hcs;cases hcs;have hset:List.take q.value.toNat (List.map AV.bool th)++[AV.bool false]++List.drop (q.value.toNat+1) (List.map AV.bool th)=(th.set q.value.toNat false).map AV.bool:=by rw[<-gI];have:=rW (AV.bool false) (l:=th.map AV.bool) (n:=q.value.toNat) (by simp;omega);simpa using this
     have hle:(q.value.toNat+1<=th.length)=True:=aK (by omega);simp only[hv0',hvlt,hset,hle,Nat.mul_one,bF,hw,go_sem,seval];have b1:=hB q.body hbo hbs false false;have b2:=hB q.index hio his false false;rw[aC.avc]at b1 b2;simp only[aA.av,aA.cells,Sl.av]at b1 b2;refine cR b1 (mK (by simp only[go_sem,seval]) (by simp only[go_sem,seval]) (by simp only[go_sem,seval]) (gN (l:=th.set q.value.toNat false) (by simp) rfl 62)) (v:=.bool (cU k q.body (t.aSh.aSi.es.length-1) (th.set q.value.toNat false))) (pa:=[]) rfl ?_;cases rp:cU k q.body (t.aSh.aSi.es.length-1) (th.set q.value.toNat false);simp only[go_sem,seval];simp only[hw,go_sem,seval];refine cR b2 (mK (by simp only[go_sem,seval]) (by simp only[go_sem,seval]) (by simp only[go_sem,seval]) (gN (l:=th.set q.value.toNat false) (by simp) rfl 62)) (v:=.bool (cU k q.index (t.aSh.aSi.es.length-1) (th.set q.value.toNat false))) (pa:=[]) rfl ?_;simp only[go_sem,seval]
 case true=>
 simp only[hv0',ht,hto,e1,go_sem,seval];refine aB a83 ?_;cases tb:fO k.aSe.es q.body
 case false=>refine Wk ?_;simp[nN,e1,tb]
 case true=>
 cases k2:decide (q.kind=2)
 case false=>
  have hkb:nN k.aSe.es q t=false:=by simp[nN,e1,tb,k2]
  rw[hkb];simp only[k2,go_sem,seval];cases k1:decide (q.kind=1)
  case true=>refine Wk ?_;cases own;simp only[hv0',ht,hto,k1,go_sem,seval];refine aB a85 ?_;cases de:eqL cN q.space.es t.aSh.aSi.es;simp only[go_sem,seval];simp only[hv0',ht,hto,go_sem,seval];refine aB a86 ?_;simp only[go_sem,seval];simp only[hv0',ht,hto,k1,go_sem,seval]
  case false=>
  cases k3:decide (q.kind=3)
  case false=>simp only[hv0',ht,hto,k1,k2,k3,go_sem,seval]
  case true=>
   refine Wk ?_;cases r0:decide ((t.aSh.aSi.es.length:Int)=0)
   case true=>simp only[hv0',ht,hto,k1,k2,k3,r0,go_sem,seval];kernel_rfl
   case false=>
   have hsl:=hsl r0;have hw:=hw r0;simp only[hw]at hsl;simp only[hv0',ht,hto,k1,k2,k3,r0,hw,↓hsl,go_sem,seval];refine aB a85d ?_;cases de:eqL cN q.space.es t.aSh.aSi.es.dropLast
   case false=>simp only[hv0',ht,hto,k1,k2,k3,r0,hw,↓hsl,go_sem,seval];kernel_rfl
   case true=>
   cases c1:decide (q.check<0)
   case true=>simp only[hv0',ht,hto,k1,k2,k3,r0,hw,↓hsl,c1,go_sem,seval];kernel_rfl
   case false=>
   cases s1:decide (q.source<0)
   case true=>simp only[hv0',ht,hto,k1,k2,k3,r0,hw,↓hsl,c1,s1,go_sem,seval];kernel_rfl
   case false=>
   cases s2:decide ((k.aSe.es.length:Int)<=q.source)
   case true=>simp only[hv0',ht,hto,k1,k2,k3,r0,hw,↓hsl,c1,s1,s2,go_sem,seval];kernel_rfl
   case false=>
   have s0:(0<=q.source)=True:=aK (by simp at s1;omega);obtain⟨su,hsu⟩:∃u,th[q.source.toNat]?=some u:=⟨_,aW (by simp at s1 s2;omega)⟩
   obtain⟨u,hu⟩:∃u,k.aSe.es[q.source.toNat]?=some u:=⟨_,aW (by simp at s1 s2;omega)⟩
   have hsB:bS th q.source=su:=by simp[bS,hsu]
   rw[hsB,hu];dsimp only;cases su
   case false=>simp only[hv0',ht,hto,k1,k2,k3,r0,hw,↓hsl,c1,s1,s2,s0,hsu,go_sem,seval];kernel_rfl
   case true=>
   cases sv:(own==decide (q.source=q.value))
   case false=>simp only[hv0',ht,hto,k1,k2,k3,r0,hw,↓hsl,c1,s1,s2,s0,hsu,sv,go_sem,seval];kernel_rfl
   case true=>
   have b88:=h88 u t;cases own
   case true=>
    cases second
    case false=>simp only[hv0',ht,hto,k1,k2,k3,r0,hw,↓hsl,c1,s1,s2,s0,hsu,sv,go_sem,seval];kernel_rfl
    case true=>
     simp only[hv0',ht,hto,k1,k2,k3,r0,hw,↓hsl,c1,s1,s2,s0,hsu,sv,hu,go_sem,seval];refine aB b88 ?_;cases te:jH u t
     case false=>simp only[hv0',ht,hto,k1,k2,k3,r0,hw,↓hsl,go_sem,seval];kernel_rfl
     case true=>
      simp only[hv0',ht,hto,k1,k2,k3,r0,hw,↓hsl,go_sem,seval];refine aY ?_;refine kD (El.bools th) (by simp only[aM];simp only[big]at hthb;omega) (by decide) (λhe=>?_) (λhe cs hcs=>?_);have:th=[]:=by simpa using he
      rw[this]at hto;simp at hto;rw[eP]at hcs;cases hcs;have hset:List.take q.value.toNat (List.map AV.bool th)++[AV.bool false]++List.drop (q.value.toNat+1) (List.map AV.bool th)=(th.set q.value.toNat false).map AV.bool:=by rw[<-gI];have:=rW (AV.bool false) (l:=th.map AV.bool) (n:=q.value.toNat) (by simp;omega);simpa using this
      have hle:(q.value.toNat+1<=th.length)=True:=aK (by omega);simp only[hv0',hvlt,hset,hle,Nat.mul_one,bF,hw,go_sem,seval];have b1:=hB q.body hbo hbs false false;have b2:=hB q.index hio his false false;rw[aC.avc]at b1 b2;simp only[aA.av,aA.cells,Sl.av]at b1 b2;refine cR b1 (mK (by simp only[go_sem,seval]) (by simp only[go_sem,seval]) (by simp only[go_sem,seval]) (gN (l:=th.set q.value.toNat false) (by simp) rfl 62)) (v:=.bool (cU k q.body (t.aSh.aSi.es.length-1) (th.set q.value.toNat false))) (pa:=[]) rfl ?_;cases rp:cU k q.body (t.aSh.aSi.es.length-1) (th.set q.value.toNat false);simp only[go_sem,seval];simp only[hw,go_sem,seval];refine cR b2 (mK (by simp only[go_sem,seval]) (by simp only[go_sem,seval]) (by simp only[go_sem,seval]) (gN (l:=th.set q.value.toNat false) (by simp) rfl 62)) (v:=.bool (cU k q.index (t.aSh.aSi.es.length-1) (th.set q.value.toNat false))) (pa:=[]) rfl ?_;simp only[go_sem,seval]
   case false=>
    simp only[hv0',ht,hto,k1,k2,k3,r0,hw,↓hsl,c1,s1,s2,s0,hsu,sv,hu,go_sem,seval];refine aB b88 ?_;cases te:jH u t
    case false=>simp only[hv0',ht,hto,k1,k2,k3,r0,hw,↓hsl,go_sem,seval];kernel_rfl
    case true=>
     simp only[hv0',ht,hto,k1,k2,k3,r0,hw,↓hsl,go_sem,seval];refine aY ?_;refine kD (El.bools th) (by simp only[aM];simp only[big]at hthb;omega) (by decide) (λhe=>?_) (λhe cs hcs=>?_);have:th=[]:=by simpa using he
     rw[this]at hto;simp at hto;rw[eP]at hcs;cases hcs;have hset:List.take q.value.toNat (List.map AV.bool th)++[AV.bool false]++List.drop (q.value.toNat+1) (List.map AV.bool th)=(th.set q.value.toNat false).map AV.bool:=by rw[<-gI];have:=rW (AV.bool false) (l:=th.map AV.bool) (n:=q.value.toNat) (by simp;omega);simpa using this
     have hle:(q.value.toNat+1<=th.length)=True:=aK (by omega);simp only[hv0',hvlt,hset,hle,Nat.mul_one,bF,hw,go_sem,seval];have b1:=hB q.body hbo hbs false false;have b2:=hB q.index hio his false false;rw[aC.avc]at b1 b2;simp only[aA.av,aA.cells,Sl.av]at b1 b2;refine cR b1 (mK (by simp only[go_sem,seval]) (by simp only[go_sem,seval]) (by simp only[go_sem,seval]) (gN (l:=th.set q.value.toNat false) (by simp) rfl 62)) (v:=.bool (cU k q.body (t.aSh.aSi.es.length-1) (th.set q.value.toNat false))) (pa:=[]) rfl ?_;cases rp:cU k q.body (t.aSh.aSi.es.length-1) (th.set q.value.toNat false);simp only[go_sem,seval];simp only[hw,go_sem,seval];refine cR b2 (mK (by simp only[go_sem,seval]) (by simp only[go_sem,seval]) (by simp only[go_sem,seval]) (gN (l:=th.set q.value.toNat false) (by simp) rfl 62)) (v:=.bool (cU k q.index (t.aSh.aSi.es.length-1) (th.set q.value.toNat false))) (pa:=[]) rfl ?_;simp only[go_sem,seval]
 case true=>
 simp only[k2,go_sem,seval];refine aB (a84 _) ?_;cases ts:fD q.fn.es [true,true]
 case false=>refine Wk ?_;simp[nN,e1,tb,k2,ts]
 case true=>
  have hkb:nN k.aSe.es q t=false:=by simp[nN,e1,tb,ts]
  have k1:decide (q.kind=1)=false:=by simp at k2 ⊢;omega
  rw[hkb,k1];refine Wk ?_;cases own;cases r0:decide (0<(t.aSh.aSi.es.length:Int));simp only[hv0',ht,hto,k1,k2,r0,go_sem,seval];simp only[hv0',ht,hto,k1,k2,r0,go_sem,seval];refine aB a85 ?_;cases de:eqL cN q.space.es t.aSh.aSi.es;simp only[go_sem,seval];simp only[hv0',ht,hto,go_sem,seval];refine aB a86 ?_;cases rp:cU k q.body t.aSh.aSi.es.length th;simp only[go_sem,seval];simp only[hv0',ht,hto,go_sem,seval];refine aB a87 ?_;simp only[go_sem,seval];simp only[hv0',ht,hto,k1,k2,go_sem,seval]
end
end Go.Tev
end
