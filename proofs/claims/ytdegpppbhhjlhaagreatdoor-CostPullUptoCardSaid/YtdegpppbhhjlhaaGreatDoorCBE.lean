import Derived.Test.YtdegpppbhhjlhaaGreatDoorCBD
import Derived.Test.YtdegpppbhhjlhaaGreatDoorCAW
import Derived.Test.YtdegpppbhhjlhaaGreatDoorCAQ
import Derived.Test.YtdegpppbhhjlhaaGreatDoorCAR
import Derived.Test.YtdegpppbhhjlhaaGreatDoorCAX
import Derived.Test.YtdegpppbhhjlhaaGreatDoorCAS
import Derived.Test.YtdegpppbhhjlhaaGreatDoorCAY
set_option linter.all false
namespace Go.Tev
section
def BX(fn:List aE)(o:Int):Int:=fn.foldl (λo s=>bif lI s then o else wr .i64 (o+1)) o
def lY(fn:List aE)(xs:List Int)(c:Cn):Rs:=bif pW fn xs then .ok (SZ fn xs) {c with ops:=BX fn c.ops} else .er 12
inductive Ks where
 |ok (xs:List Int) (c:Cn)
 |er (e:Int)
abbrev EvF:=List Val->Cn->Rs
def jK:List EvF->List Val->List Int->Cn->Ks
 |[],_,acc,c => .ok acc c
 |f::r,env,acc,c=>match f env c with
  |.er e => .er e
  |.ok n c'=>jK r env (acc++[n]) c'
def nI(fn:List aE)(name:Str)(g:EvF)(env:List Val):Nat->Int->Int->Cn->Rs
 |0,_,acc,c => .ok acc c
 |k+1,i,acc,c=>match g (env++[⟨name,i⟩]) c with
  |.er e => .er e
  |.ok y c'=>match lY fn [acc,y] c' with
   |.er e => .er e
   |.ok n c''=>nI fn name g env k (i+1) n c''
def BZ(env:List Val):List Lin->List Int->Option (List Int)
 |[],acc=>some acc
 |l::r,acc=>match nB env l with|none=>none|some n=>BZ env r (acc++[n])
def gZ(dyn:Bool):List Int->List Int->Int
 |x::r,d::s=>if 0<=x/\x<d then gZ dyn r s else if dyn=false\/r≠[] then 2 else 1
 |_,_=>0
def qA(a:Arr)(dyn:Bool)(check:Int)(ix:List Int)(c:Cn):Rs:=
 if (ix.length:Int)≠a.dims.es.length then .er 13 else
 if gZ dyn ix a.dims.es=2 then .er 2 else
 if gZ dyn ix a.dims.es=1 then .ok 0 {c with rd:=wr .i64 (c.rd+1),vi:=if check=0 then c.vi else c.vi++[check]} else
 .ok (atA a ix).1 {c with rd:=wr .i64 (c.rd+1)}
def pG(arrs:List Arr)(p:aA)(fs:List EvF)(env:List Val)(c:Cn):Rs:=
 match jK fs env [] c with
 |.er e => .er e
 |.ok last c2=>match BZ env p.at_.es [] with
  |none => .er 3
  |some ix=>match arrs[p.value.toNat]? with
   |none => .er 1
   |some a=>qA a p.dyn p.check (ix++last) c2
def I8(env:List Val)(p:aA):Option Int:=match p.at_.es with|l::_=>nB env l|[]=>none
def D9(p:aA)(fs:List EvF)(env:List Val)(c:Cn):Rs:=
 match jK fs env [] c with
 |.er e => .er e
 |.ok xs c2=>if p.op.bs=[99,111,100,101] then lY p.fn.es xs c2 else if lB p.op.bs xs then .ok (wE p.op.bs xs) {c2 with ops:=wr .i64 (c2.ops+1)} else .er 12
def ifN(p:aA)(fs:List EvF)(env:List Val)(c:Cn):Rs:=
 match I8 env p with
 |none => .er 3
 |some n=>match fs with|[f,g]=>if 0<=n then f env c else g env c|_ => .er 1
def IM(p:aA)(fs:List EvF)(env:List Val)(c:Cn):Rs:=
 match fs with
 |[f,g]=>match f env c with
  |.er e => .er e
  |.ok n c2=>match I8 env p with
   |none => .er 3
   |some m=>nI p.fn.es p.name g env m.toNat 0 n c2
 |_ => .er 1
def o7(arrs:List Arr)(p:aA)(fs:List EvF)(env:List Val)(c:Cn):Rs:=
 if 1000000<wr .i64 (c.wk+1) then .er 3 else
 if p.op.bs=[99,111,110,115,116] then .ok p.num {c with wk:=wr .i64 (c.wk+1)} else
 if p.op.bs=[108,105,110,101,97,114] then (match I8 env p with|none => .er 3|some n => .ok (tK n) {c with wk:=wr .i64 (c.wk+1)}) else
 if p.op.bs=[114,101,97,100] then pG arrs p fs env {c with wk:=wr .i64 (c.wk+1)} else
 if p.op.bs=[105,102] then ifN p fs env {c with wk:=wr .i64 (c.wk+1)} else
 if p.op.bs=[114,101,100,117,99,101] then IM p fs env {c with wk:=wr .i64 (c.wk+1)} else
 D9 p fs env {c with wk:=wr .i64 (c.wk+1)}
mutual
def evU(arrs:List Arr):aA->EvF
 |.mk op num value name at_ dyn check fn knl kids kcl=>o7 arrs (.mk op num value name at_ dyn check fn knl kids kcl) (UT arrs kids)
def UT(arrs:List Arr):List aA->List EvF
 |[]=>[]
 |p::r=>evU arrs p::UT arrs r
end
theorem PO(arrs:List Arr):∀l:List aA,UT arrs l=l.map (evU arrs)
 |[]=>by rw[UT];rfl
 |p::r=>by rw[UT,PO arrs r];rfl
theorem FQ(arrs:List Arr)(p:aA):evU arrs p=o7 arrs p (p.kids.map (evU arrs)):=by cases p;rw[evU,PO];rfl
def u2(c c':Cn):Prop:=(c'.vi.length:Int)+c.wk<=c.vi.length+c'.wk/\c.wk<=c'.wk/\c'.wk<=1000000
def W3(f:EvF):Prop:=∀env c n c',0<=c.wk->c.wk<=1000000->f env c = .ok n c'->u2 c c'
theorem u2.refl{c:Cn}(h:c.wk<=1000000):u2 c c:=⟨Int.le_refl _,Int.le_refl _,h⟩
theorem u2.trans{a b c:Cn}(h:u2 a b)(h':u2 b c):u2 a c:=by obtain⟨h1,h2,h3⟩:=h;obtain⟨g1,g2,g3⟩:=h';exact⟨by omega,by omega,g3⟩
theorem vJ:∀{fs:List EvF}{env:List Val}{acc:List Int}{c:Cn}{xs:List Int}{c':Cn},(∀f∈fs,W3 f)->0<=c.wk->c.wk<=1000000->jK fs env acc c = .ok xs c'->u2 c c'
 |[],env,acc,c,xs,c',_,_,hw,h=>by simp only[jK,Ks.ok.injEq]at h;rw[<-h.2];exact u2.refl hw
 |f::r,env,acc,c,xs,c',hf,h0,hw,h=>by simp only[jK]at h;split at h;cases h;rename_i n c2 h2;have b1:=hf f (by simp) env c n c2 h0 hw h2;exact b1.trans (vJ (λg hg=>hf g (cE _ hg)) (by have:=b1.2.1;omega) b1.2.2 h)
theorem rF{fn:List aE}{xs:List Int}{c c':Cn}{n:Int}(hw:c.wk<=1000000)(h:lY fn xs c = .ok n c'):u2 c c':=by unfold lY at h;cases hB:pW fn xs;rw[hB]at h;cases h;rw[hB]at h;simp only[cond_true,Rs.ok.injEq]at h;rw[<-h.2];exact⟨Int.le_refl _,Int.le_refl _,hw⟩
theorem CR{fn:List aE}{name:Str}{g:EvF}{env:List Val}(hg:W3 g):∀{k:Nat}{i acc:Int}{c c':Cn}{n:Int},0<=c.wk->c.wk<=1000000->nI fn name g env k i acc c = .ok n c'->u2 c c'
 |0,i,acc,c,c',n,_,hw,h=>by simp only[nI,Rs.ok.injEq]at h;rw[<-h.2];exact u2.refl hw
 |k+1,i,acc,c,c',n,h0,hw,h=>by simp only[nI]at h;split at h;cases h;rename_i y c2 h2;have b1:=hg _ c y c2 h0 hw h2;split at h;cases h;rename_i z c3 h3;have b2:=rF b1.2.2 h3;have b3:=b1.trans b2;exact b3.trans (CR hg (by have:=b3.2.1;omega) b3.2.2 h)
theorem QR{a:Arr}{dyn:Bool}{check:Int}{ix:List Int}{c c':Cn}{n:Int}(h:qA a dyn check ix c = .ok n c'):c'.wk=c.wk/\(c'.vi.length:Int)<=c.vi.length+1:=by unfold qA at h;split at h;cases h;split at h;cases h;split at h;simp only[Rs.ok.injEq]at h;rw[<-h.2];refine⟨rfl,?_⟩;show ((if check=0 then c.vi else c.vi++[check]).length:Int)<=_;split;omega;simp;simp only[Rs.ok.injEq]at h;rw[<-h.2];exact⟨rfl,show ((c.vi).length:Int)<=_ by omega⟩
theorem MU(arrs:List Arr)(p:aA){fs:List EvF}(hf:∀f∈fs,W3 f):W3 (o7 arrs p fs):=by
 intro env c n c' h0 hw h;unfold o7 at h;have w1:wr .i64 (c.wk+1)=c.wk+1:=gH (by omega) (by omega);rw[w1]at h;split at h;cases h;rename_i hlt;have hb:u2 c {c with wk:=c.wk+1}:=⟨by simp only;omega,by simp only;omega,by simp only;omega⟩
 have h1:(0:Int)<=c.wk+1:=by omega
 have h2:c.wk+1<=1000000:=by omega
 split at h;simp only[Rs.ok.injEq]at h;rw[<-h.2];exact hb;split at h;split at h;cases h;simp only[Rs.ok.injEq]at h;rw[<-h.2];exact hb;split at h;unfold pG at h;split at h;cases h;rename_i ys c2 hk;have b1:=vJ hf h1 h2 hk;split at h;cases h;split at h;cases h;obtain⟨r1,r2⟩:=QR h;obtain⟨b1,b2,b3⟩:=b1;simp only at b1 b2;exact⟨by omega,by omega,by omega⟩;split at h;unfold ifN at h;split at h;cases h;split at h;rename_i f g;split at h;exact hb.trans (hf f (by simp) _ _ _ _ h1 h2 h);exact hb.trans (hf g (by simp) _ _ _ _ h1 h2 h);cases h;split at h;unfold IM at h;split at h;rename_i f g;split at h;cases h;rename_i m c2 hm;have b1:=hf f (by simp) _ _ _ _ h1 h2 hm;split at h;cases h;have b2:=hb.trans b1;exact b2.trans (CR (hf g (by simp)) (by have:=b2.2.1;omega) b2.2.2 h);cases h;unfold D9 at h;split at h;cases h;rename_i xs c2 hk;have b1:=hb.trans (vJ hf h1 h2 hk);split at h;exact b1.trans (rF b1.2.2 h);split at h;simp only[Rs.ok.injEq]at h;rw[<-h.2];exact b1.trans ⟨Int.le_refl _,Int.le_refl _,b1.2.2⟩;cases h
theorem uF(arrs:List Arr):∀p:aA,W3 (evU arrs p):=by refine aA.ind' λp ih=>?_;rw[FQ];refine MU arrs p ?_;intro f hf;simp only[List.mem_map]at hf;obtain⟨q,hq,rfl⟩:=hf;exact ih q hq
def rT(c:Cn):Prop:=0<=c.wk/\(c.vi.length:Int)<=c.wk/\c.wk<=1000000
theorem rT.bnd{c c':Cn}(h:rT c)(b:u2 c c'):rT c':=by obtain⟨h1,h2,h3⟩:=h;obtain⟨b1,b2,b3⟩:=b;exact⟨by omega,by omega,b3⟩
theorem rT.room{c:Cn}(h:rT c):c.vi.length+1<=1073741824:=by obtain⟨h1,h2,h3⟩:=h;omega
section
variable{pg:Pg}
end
end
section
section
variable{pg:Pg}
end
end
section
section
variable{pg:Pg}
end
end
section
section
variable{pg:Pg}
end
end
section
end
section
def Lin.strip(l:Lin):Lin:=⟨l.c,⟨false,l.ts.es,false,l.ts.ok⟩⟩
def aE.strip(s:aE):aE:=⟨s.op,s.num,⟨false,s.args.es,false,s.args.ok⟩⟩
def Sl.mapS{α : Type}(f : α -> α)(s:Sl α):Sl α:=⟨false,s.es.map f,false,by simpa using s.ok⟩
mutual
def aA.strip:aA->aA
 |.mk op num value name at_ dyn check fn _ kids _ => .mk op num value name (at_.mapS Lin.strip) dyn check (fn.mapS aE.strip) false (aA.strips kids) false
def aA.strips:List aA->List aA
 |[]=>[]
 |p::r=>p.strip::aA.strips r
end
theorem aA.strips_eq:∀l:List aA,aA.strips l=l.map aA.strip
 |[]=>by simp[aA.strips]
 |p::r=>by simp[aA.strips,aA.strips_eq r]
theorem aA.strip_eq(p:aA):p.strip = .mk p.op p.num p.value p.name (p.at_.mapS Lin.strip) p.dyn p.check (p.fn.mapS aE.strip) false (p.kids.map aA.strip) false:=by cases p;rw[aA.strip,aA.strips_eq];rfl
def Loop.strip(x:Loop):Loop:=⟨x.v,x.lo.strip,x.hi.mapS Lin.strip,x.step⟩
def eH.strip(n:eH):eH:=⟨n.loops.mapS Loop.strip,n.value,n.at_.mapS Lin.strip,n.dyn,n.index.strip,n.check,n.body.strip⟩
theorem E7(ls:List Lin)(vars:List Str):dS (ls.map Lin.strip) vars=dS ls vars:=by simp only[dS,List.all_map];rfl
theorem rW:∀(fn:List aE)(n:Int),bZ n (fn.map aE.strip)=bZ n fn
 |[],_=>rfl
 |s::r,n=>by rw[List.map_cons,bZ,bZ,rW r];rfl
theorem FU(fn:List aE)(n:Int):cC (fn.map aE.strip) n=cC fn n:=by rw[cC,cC,rW,bU]
theorem uW(p:aA)(a b c d e f:Bool):dC p.strip a b c d e f=dC p a b c d e f:=by rw[aA.strip_eq];simp only[dC,aA.num,aA.value,aA.name,aA.at_,aA.dyn,aA.check,aA.fn,Sl.mapS,bU];cases p;rfl
theorem FC(p:aA)(vars:List Str)(v:Int):cF p.strip vars v=cF p vars v:=by
 have h1:lN p.strip v=lN p v:=by simp only[lN,uW];rw[aA.strip_eq];simp only[aA.value,aA.at_,aA.dyn,aA.check,aA.kids,Sl.mapS,bU];cases p;rfl
 simp only[cF,uW,h1];rw[aA.strip_eq];simp only[aA.op,aA.num,aA.name,aA.at_,aA.kids,aA.fn,Sl.mapS,bU,FU];cases p;rfl
mutual
theorem EI(v:Int):∀(p:aA)(vars:List Str),bO v p.strip vars=bO v p vars
 |.mk op num value name at_ dyn check fn knl kids kcl,vars=>by have h:=FC (.mk op num value name at_ dyn check fn knl kids kcl) vars v;rw[aA.strip]at h ⊢;rw[bO,bO,h,rU v _ _ _ kids];simp only[Sl.mapS,E7]
theorem rU(v:Int)(red:Bool)(name:Str)(vars:List Str):∀(kids:List aA)(i:Nat),cN v red name vars i (aA.strips kids)=cN v red name vars i kids
 |[],i=>by rw[aA.strips]
 |k::r,i=>by rw[aA.strips,cN,cN,EI v k,rU v red name vars r]
end
mutual
theorem FB:∀p:aA,kX p.strip=kX p
 |.mk op num value name at_ dyn check fn knl kids kcl=>by rw[aA.strip,kX,kX,tU kids]
theorem tU:∀(l:List aA)(a:Int),jS a (aA.strips l)=jS a l
 |[],a=>by rw[aA.strips]
 |p::r,a=>by rw[aA.strips,jS,jS,FB p,tU r]
end
mutual
theorem aA.strip_strip:∀p:aA,p.strip.strip=p.strip
 |.mk op num value name at_ dyn check fn knl kids kcl=>by rw[aA.strip,aA.strip,aA.strips_strips kids];simp only[Sl.mapS,List.map_map];rfl
theorem aA.strips_strips:∀l:List aA,aA.strips (aA.strips l)=aA.strips l
 |[]=>by rw[aA.strips,aA.strips]
 |p::r=>by rw[aA.strips,aA.strips,aA.strip_strip p,aA.strips_strips r]
end
mutual
theorem aA.ok_strip:∀p:aA,p.strip.ok↔p.ok
 |.mk op num value name at_ dyn check fn knl kids kcl=>by rw[aA.strip,aA.ok,aA.ok,aA.oks_strip kids,aA.strips_eq,bU]
theorem aA.oks_strip:∀l:List aA,aA.oks (aA.strips l)↔aA.oks l
 |[]=>by rw[aA.strips]
 |p::r=>by rw[aA.strips,aA.oks,aA.oks,aA.ok_strip p,aA.oks_strip r]
end
mutual
theorem aA.sz_strip:∀p:aA,p.strip.sz=p.sz
 |.mk op num value name at_ dyn check fn knl kids kcl=>by rw[aA.strip,aA.sz,aA.sz,aA.szL_strip kids]
theorem aA.szL_strip:∀l:List aA,aA.szL (aA.strips l)=aA.szL l
 |[]=>by rw[aA.strips]
 |p::r=>by rw[aA.strips,aA.szL,aA.szL,aA.sz_strip p,aA.szL_strip r]
end
end
section
section
variable{pg:Pg}
theorem c572(hf:pg.fs 572=some xF)(nl cl:Bool)(vars:List Str)(hb:vars.length<=big)(s:List UInt8):Ret pg 572 [.sl nl (vars.map Str.av) cl,.str s] (.bool (fD vars s)):=by
 refine Ret.ofX hf ?_;unfold xF;refine Wk ?_;refine aN vars (λd r env hp=>env=yK (.sl nl (vars.map Str.av) cl) (.str s) (.int .i64 d.length)/\fD vars s=fD r s) ?_ ?_ ?_;exact⟨rfl,rfl⟩;rintro env hp ⟨rfl,hI⟩;simp only[yJ,yK,bH,go_sem,seval];rw[hI];rfl;rintro d x r env hp hes ⟨rfl,hI⟩;obtain⟨hget,e1,e2,ew⟩:=cY hes hb;have hsym:decide (x.bs=s)=decide (s=x.bs):=by rw[eC];exact eq_comm
 cases hx:decide (s=x.bs);simp only[yJ,yK,e1,e2,hget,hsym,hx,ew,go_sem,seval];refine⟨rfl,?_⟩;rw[hI];simp[fD,hx];simp only[yJ,yK,e1,e2,hget,hsym,hx,go_sem,seval];rw[hI];simp[fD,hx]
end
end
end Go.Tev
