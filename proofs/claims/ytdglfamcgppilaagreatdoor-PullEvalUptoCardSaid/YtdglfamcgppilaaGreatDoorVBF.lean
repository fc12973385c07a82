import Derived.Test.YtdglfamcgppilaaGreatDoorVBE
import Derived.Test.YtdglfamcgppilaaGreatDoorVAX
import Derived.Test.YtdglfamcgppilaaGreatDoorVAQ
import Derived.Test.YtdglfamcgppilaaGreatDoorVAR
import Derived.Test.YtdglfamcgppilaaGreatDoorVAY
import Derived.Test.YtdglfamcgppilaaGreatDoorVAS
import Derived.Test.YtdglfamcgppilaaGreatDoorVAT
import Derived.Test.YtdglfamcgppilaaGreatDoorVAZ
set_option linter.all false
namespace Go.Tev
section
def vS(fn:List aH)(o:Int):Int:=fn.foldl (λo s=>bif iQ s then o else wr .i64 (o+1)) o
def kU(fn:List aH)(xs:List Int)(c:Cn):Rs:=bif lX fn xs then .ok (F2 fn xs) {c with ops:=vS fn c.ops} else .er 12
inductive Ks where
 |ok (xs:List Int) (c:Cn)
 |er (e:Int)
abbrev EvF:=List Val->Cn->Rs
def hZ:List EvF->List Val->List Int->Cn->Ks
 |[],_,acc,c => .ok acc c
 |f::r,env,acc,c=>match f env c with
  |.er e => .er e
  |.ok n c'=>hZ r env (acc++[n]) c'
def oF(fn:List aH)(name:Str)(g:EvF)(env:List Val):Nat->Int->Int->Cn->Rs
 |0,_,acc,c => .ok acc c
 |k+1,i,acc,c=>match g (env++[⟨name,i⟩]) c with
  |.er e => .er e
  |.ok y c'=>match kU fn [acc,y] c' with
   |.er e => .er e
   |.ok n c''=>oF fn name g env k (i+1) n c''
def rX(env:List Val):List Lin->List Int->Option (List Int)
 |[],acc=>some acc
 |l::r,acc=>match gY env l with|none=>none|some n=>rX env r (acc++[n])
def eO(dyn:Bool):List Int->List Int->Int
 |x::r,d::s=>if 0<=x/\x<d then eO dyn r s else if dyn=false\/r≠[] then 2 else 1
 |_,_=>0
def qM(a:Arr)(dyn:Bool)(check:Int)(ix:List Int)(c:Cn):Rs:=
 if (ix.length:Int)≠a.dims.es.length then .er 13 else
 if eO dyn ix a.dims.es=2 then .er 2 else
 if eO dyn ix a.dims.es=1 then .ok 0 {c with rd:=wr .i64 (c.rd+1),vi:=if check=0 then c.vi else c.vi++[check]} else
 .ok (atA a ix).1 {c with rd:=wr .i64 (c.rd+1)}
def mI(arrs:List Arr)(p:aA)(fs:List EvF)(env:List Val)(c:Cn):Rs:=
 match hZ fs env [] c with
 |.er e => .er e
 |.ok last c2=>match rX env p.at_.es [] with
  |none => .er 3
  |some ix=>match arrs[p.value.toNat]? with
   |none => .er 1
   |some a=>qM a p.dyn p.check (ix++last) c2
def DE(env:List Val)(p:aA):Option Int:=match p.at_.es with|l::_=>gY env l|[]=>none
def CH(p:aA)(fs:List EvF)(env:List Val)(c:Cn):Rs:=
 match hZ fs env [] c with
 |.er e => .er e
 |.ok xs c2=>if p.op.bs=[99,111,100,101] then kU p.fn.es xs c2 else if eS p.op.bs xs then .ok (cR p.op.bs xs) {c2 with ops:=wr .i64 (c2.ops+1)} else .er 12
def ifN(p:aA)(fs:List EvF)(env:List Val)(c:Cn):Rs:=
 match DE env p with
 |none => .er 3
 |some n=>match fs with|[f,g]=>if 0<=n then f env c else g env c|_ => .er 1
def xH(p:aA)(fs:List EvF)(env:List Val)(c:Cn):Rs:=
 match fs with
 |[f,g]=>match f env c with
  |.er e => .er e
  |.ok n c2=>match DE env p with
   |none => .er 3
   |some m=>oF p.fn.es p.name g env m.toNat 0 n c2
 |_ => .er 1
def gP(arrs:List Arr)(p:aA)(fs:List EvF)(env:List Val)(c:Cn):Rs:=
 if 1000000<wr .i64 (c.wk+1) then .er 3 else
 if p.op.bs=[99,111,110,115,116] then .ok p.num {c with wk:=wr .i64 (c.wk+1)} else
 if p.op.bs=[108,105,110,101,97,114] then (match DE env p with|none => .er 3|some n => .ok (jB n) {c with wk:=wr .i64 (c.wk+1)}) else
 if p.op.bs=[114,101,97,100] then mI arrs p fs env {c with wk:=wr .i64 (c.wk+1)} else
 if p.op.bs=[105,102] then ifN p fs env {c with wk:=wr .i64 (c.wk+1)} else
 if p.op.bs=[114,101,100,117,99,101] then xH p fs env {c with wk:=wr .i64 (c.wk+1)} else
 CH p fs env {c with wk:=wr .i64 (c.wk+1)}
mutual
def evU(arrs:List Arr):aA->EvF
 |.mk op num value name at_ dyn check fn knl kids kcl=>gP arrs (.mk op num value name at_ dyn check fn knl kids kcl) (RM arrs kids)
def RM(arrs:List Arr):List aA->List EvF
 |[]=>[]
 |p::r=>evU arrs p::RM arrs r
end
theorem MP(arrs:List Arr):∀l:List aA,RM arrs l=l.map (evU arrs)
 |[]=>by rw[RM];rfl
 |p::r=>by rw[RM,MP arrs r];rfl
theorem JW(arrs:List Arr)(p:aA):evU arrs p=gP arrs p (p.kids.map (evU arrs)):=by cases p;rw[evU,MP];rfl
def s6(c c':Cn):Prop:=(c'.vi.length:Int)+c.wk<=c.vi.length+c'.wk/\c.wk<=c'.wk/\c'.wk<=1000000
def TA(f:EvF):Prop:=∀env c n c',0<=c.wk->c.wk<=1000000->f env c = .ok n c'->s6 c c'
theorem s6.refl{c:Cn}(h:c.wk<=1000000):s6 c c:=⟨Int.le_refl _,Int.le_refl _,h⟩
theorem s6.trans{a b c:Cn}(h:s6 a b)(h':s6 b c):s6 a c:=by obtain⟨h1,h2,h3⟩:=h;obtain⟨g1,g2,g3⟩:=h';exact⟨by omega,by omega,g3⟩
theorem pU:∀{fs:List EvF}{env:List Val}{acc:List Int}{c:Cn}{xs:List Int}{c':Cn},(∀f∈fs,TA f)->0<=c.wk->c.wk<=1000000->hZ fs env acc c = .ok xs c'->s6 c c'
 |[],env,acc,c,xs,c',_,_,hw,h=>by simp only[hZ,Ks.ok.injEq]at h;rw[<-h.2];exact s6.refl hw
 |f::r,env,acc,c,xs,c',hf,h0,hw,h=>by simp only[hZ]at h;split at h;cases h;rename_i n c2 h2;have b1:=hf f (by simp) env c n c2 h0 hw h2;exact b1.trans (pU (λg hg=>hf g (cC _ hg)) (by have:=b1.2.1;omega) b1.2.2 h)
theorem nF{fn:List aH}{xs:List Int}{c c':Cn}{n:Int}(hw:c.wk<=1000000)(h:kU fn xs c = .ok n c'):s6 c c':=by unfold kU at h;cases hB:lX fn xs;rw[hB]at h;cases h;rw[hB]at h;simp only[cond_true,Rs.ok.injEq]at h;rw[<-h.2];exact⟨Int.le_refl _,Int.le_refl _,hw⟩
theorem AP{fn:List aH}{name:Str}{g:EvF}{env:List Val}(hg:TA g):∀{k:Nat}{i acc:Int}{c c':Cn}{n:Int},0<=c.wk->c.wk<=1000000->oF fn name g env k i acc c = .ok n c'->s6 c c'
 |0,i,acc,c,c',n,_,hw,h=>by simp only[oF,Rs.ok.injEq]at h;rw[<-h.2];exact s6.refl hw
 |k+1,i,acc,c,c',n,h0,hw,h=>by simp only[oF]at h;split at h;cases h;rename_i y c2 h2;have b1:=hg _ c y c2 h0 hw h2;split at h;cases h;rename_i z c3 h3;have b2:=nF b1.2.2 h3;have b3:=b1.trans b2;exact b3.trans (AP hg (by have:=b3.2.1;omega) b3.2.2 h)
theorem NQ{a:Arr}{dyn:Bool}{check:Int}{ix:List Int}{c c':Cn}{n:Int}(h:qM a dyn check ix c = .ok n c'):c'.wk=c.wk/\(c'.vi.length:Int)<=c.vi.length+1:=by unfold qM at h;split at h;cases h;split at h;cases h;split at h;simp only[Rs.ok.injEq]at h;rw[<-h.2];refine⟨rfl,?_⟩;show ((if check=0 then c.vi else c.vi++[check]).length:Int)<=_;split;omega;simp;simp only[Rs.ok.injEq]at h;rw[<-h.2];exact⟨rfl,show ((c.vi).length:Int)<=_ by omega⟩
theorem JX(arrs:List Arr)(p:aA){fs:List EvF}(hf:∀f∈fs,TA f):TA (gP arrs p fs):=by
 intro env c n c' h0 hw h;unfold gP at h;have w1:wr .i64 (c.wk+1)=c.wk+1:=mY (by omega) (by omega);rw[w1]at h;split at h;cases h;rename_i hlt;have hb:s6 c {c with wk:=c.wk+1}:=⟨by simp only;omega,by simp only;omega,by simp only;omega⟩
 have h1:(0:Int)<=c.wk+1:=by omega
 have h2:c.wk+1<=1000000:=by omega
 split at h;simp only[Rs.ok.injEq]at h;rw[<-h.2];exact hb;split at h;split at h;cases h;simp only[Rs.ok.injEq]at h;rw[<-h.2];exact hb;split at h;unfold mI at h;split at h;cases h;rename_i ys c2 hk;have b1:=pU hf h1 h2 hk;split at h;cases h;split at h;cases h;obtain⟨r1,r2⟩:=NQ h;obtain⟨b1,b2,b3⟩:=b1;simp only at b1 b2;exact⟨by omega,by omega,by omega⟩;split at h;unfold ifN at h;split at h;cases h;split at h;rename_i f g;split at h;exact hb.trans (hf f (by simp) _ _ _ _ h1 h2 h);exact hb.trans (hf g (by simp) _ _ _ _ h1 h2 h);cases h;split at h;unfold xH at h;split at h;rename_i f g;split at h;cases h;rename_i m c2 hm;have b1:=hf f (by simp) _ _ _ _ h1 h2 hm;split at h;cases h;have b2:=hb.trans b1;exact b2.trans (AP (hf g (by simp)) (by have:=b2.2.1;omega) b2.2.2 h);cases h;unfold CH at h;split at h;cases h;rename_i xs c2 hk;have b1:=hb.trans (pU hf h1 h2 hk);split at h;exact b1.trans (nF b1.2.2 h);split at h;simp only[Rs.ok.injEq]at h;rw[<-h.2];exact b1.trans ⟨Int.le_refl _,Int.le_refl _,b1.2.2⟩;cases h
theorem kO(arrs:List Arr):∀p:aA,TA (evU arrs p):=by refine aA.ind' λp ih=>?_;rw[JW];refine JX arrs p ?_;intro f hf;simp only[List.mem_map]at hf;obtain⟨q,hq,rfl⟩:=hf;exact ih q hq
def lM(c:Cn):Prop:=0<=c.wk/\(c.vi.length:Int)<=c.wk/\c.wk<=1000000
theorem lM.bnd{c c':Cn}(h:lM c)(b:s6 c c'):lM c':=by obtain⟨h1,h2,h3⟩:=h;obtain⟨b1,b2,b3⟩:=b;exact⟨by omega,by omega,b3⟩
theorem lM.room{c:Cn}(h:lM c):c.vi.length+1<=1073741824:=by obtain⟨h1,h2,h3⟩:=h;omega
section
variable{pg:Pg}
set_option maxRecDepth 100000 in
theorem c343(hf:pg.fs 343=some yW)(h337:pg.fs 337=some qP)(h315:∀nl cl (fn:List aH),fn.length<=big->∀nl' cl' (xs:List Int),xs.length<=big->Ret pg 315 [.sl nl (fn.map aH.av) cl,.sl nl' (xs.map aE) cl'] (oH fn xs))
  (ev em:Nat) (a:AV) (env:List Val) (c:Cn) (kb:Nat) (h:Hp) (hkb:65536<=kb) (hkb2:kb % 65536=0) (hv:Ev ev em a env c 0 h) (nl cl:Bool) (fn:List aH) (hb:fn.length<=big) (v:AV) (k:Nat) (xs:List Int) (hg:Gr h k v xs) (hx:xs.length<=big) :
  cL pg 343 [.pt 17 ev 0,.sl nl (fn.map aH.av) cl,v] kb h (EvP ev em a env h kb (kU fn xs c)):=by
 refine cL.ofX hf ?_;unfold yW;obtain⟨n3,c3,keys,hsn,hkeys⟩:=hg.snap1;have ht:(AV.sl nl (fn.map aH.av) cl).tree=true:=by simp only[go_sem,seval]
 refine Wk ?_;refine dU (h315 nl cl fn hb n3 c3 xs hx) (dS ht hsn) rfl rfl ?_;simp only[oH,go_sem,seval];cases hB:lX fn xs
 case false=>refine Wk ?_;refine aN (.inl rfl) (B:=(kb+5+1)*65536) rfl (c337 h337 ev em a env c _ h (by omega) hv 12 (by decide)) ?_;rintro r h' ⟨q1,⟨m,rfl⟩,q3,env',c',q4⟩;simp only[kU,hB,go_sem,seval];exact⟨(cT.refl h kb).trans q1 (by omega),⟨m,rfl⟩,by decide,env',c',q4⟩
 refine Wk ?_
 refine aM fn (λd r e hp=>∃o,e=sH (.pt 17 ev 0) (.int .i64 (F2 fn xs)) (.sl nl (fn.map aH.av) cl) (.int .i64 fn.length) (.int .i64 d.length) /\
  Ev ev em a env {c with ops:=o} 0 hp/\cT h hp kb/\vS fn c.ops=vS r o) ?_ ?_ ?_
 exact⟨c.ops,rfl,hv,cT.refl _ _,rfl⟩;rintro e hp ⟨o,rfl,hv,hkp,hI⟩;have hI:vS fn c.ops=o:=hI;simp only[sG,sH,aY,kU,hB,go_sem,seval];exact⟨hkp,rfl,by rw[hI];exact hv⟩;rintro d x r e hp hes ⟨o,rfl,hv,hkp,hI⟩;obtain⟨hget,e1,e2,ew⟩:=cG hes hb;have hx2:x.av.fits 3 true=true:=aH.fits_av x;have k8:(kb=8)=False:=eq_false (by omega);have k4:(kb=4)=False:=eq_false (by omega);have hvH:∀o1 o2,Ev ev em a env {c with ops:=o} 0 ((hp.put (kb+9) (hp.next (kb+9)) o1).put (kb+9) (hp.next (kb+9)) o2):=by intro o1 o2;refine hv.mono ?_ ?_ ?_;rw[aB,if_neg (by omega),aB,if_neg (by omega)];rw[aB,if_neg (by omega),aB,if_neg (by omega)];intro q h1 h2;rw[aB,if_neg (by omega),aB,if_neg (by omega)]
 have hkH:∀o1 o2,cT h ((hp.put (kb+9) (hp.next (kb+9)) o1).put (kb+9) (hp.next (kb+9)) o2) kb:=by intro o1 o2 q h1 h2 h3 h4;rw[aB,if_neg (by omega),aB,if_neg (by omega)];exact hkp q h1 h2 h3 h4
 cases b1:decide (x.op.bs=[99,111,110,115,116])
 case true=>
  have hL:iQ x=true:=by simp[iQ,b1]
  simp only[sG,sH,e1,e2,hget,b1,ew,go_sem,seval];exact⟨o,rfl,hvH _ _,hkH _ _,by rw[hI];simp[vS,hL]⟩
 cases b2:decide (x.op.bs=[116,114,117,116,104])
 case true=>
  have hL:iQ x=true:=by simp[iQ,b2]
  simp only[sG,sH,e1,e2,hget,b1,b2,ew,go_sem,seval];exact⟨o,rfl,hvH _ _,hkH _ _,by rw[hI];simp[vS,hL]⟩
 have hL:iQ x=false:=by simp[iQ,b1,b2]
 have hv':=hv;obtain⟨vi,bs,ck,a1,a2,a3⟩:=hv;simp only[sG,sH,e1,e2,hget,b1,b2,ew,k8,a1,fD,go_sem,seval];refine⟨wr .i64 (o+1),rfl,⟨vi,bs,ck,?_,?_,?_⟩,?_,by rw[hI];simp[vS,hL]⟩;rw[aB,if_pos rfl];rfl;rw[aB,if_neg (by omega),aB,if_neg (by omega),aB,if_neg (by omega)];exact a2;exact a3.mono (λq h1 h2=>by rw[aB,if_neg (by omega),aB,if_neg (by omega),aB,if_neg (by omega)]);intro q h1 h2 h3 h4;rw[aB,if_neg (by omega),aB,if_neg (by omega),aB,if_neg (by omega)];exact hkp q h1 h2 h3 h4
end
end
section
def EvC(pg:Pg)(arrs:List Arr)(a:AV)(q:aA)(env:List Val):Prop:=∀(ev em:Nat)(c:Cn)(kb:Nat)(h:Hp),65536<=kb->kb % 65536=0->lM c->Ev ev em a env c 0 h ->
 cL pg 304 [.pt 17 ev 0,q.av] kb h (EvP ev em a env h kb (evU arrs q env c))
def aOX(ev em:Nat)(a:AV)(env:List Val)(h:Hp)(kb:Nat)(o:Ks)(r:AV)(h':Hp):Prop:=
 cT h h' kb/\match o with
 |.ok xs c=>Gr h' (kb+13) r xs/\Ev ev em a env c 0 h'
 |.er e=>e≠0/\∃env' c',Ev ev em a env' c' e h'
section
variable{pg:Pg}
theorem tK:∀{fs:List EvF}{env:List Val}{acc:List Int}{c:Cn}{xs:List Int}{c':Cn},hZ fs env acc c = .ok xs c'->xs.length=acc.length+fs.length
 |[],env,acc,c,xs,c',h=>by simp only[hZ,Ks.ok.injEq]at h;simp[h.1]
 |f::r,env,acc,c,xs,c',h=>by simp only[hZ]at h;split at h;cases h;have:=tK h;simp at this ⊢;omega
set_option maxRecDepth 100000 in
theorem c342(hf:pg.fs 342=some yX)(arrs:List Arr)(ev em:Nat)(a:AV)(env:List Val)(c:Cn)(kb:Nat)(h:Hp)(hkb:65536<=kb)(hkb2:kb % 65536=0)(hcn:lM c)(hv:Ev ev em a env c 0 h)(p:aA)(hk:p.kids.length<=big)
  (ih:∀q∈p.kids,EvC pg arrs a q env):cL pg 342 [.pt 17 ev 0,p.av] kb h (aOX ev em a env h kb (hZ (p.kids.map (evU arrs)) env [] c)):=by
 refine cL.ofX hf ?_;unfold yX;have n1:(kb+1=17)=False:=eq_false (by omega);refine Wk ?_
 refine aM p.kids (λd r e hp=>∃v xs c',e=EU (.pt 17 ev 0) v (.sl p.knl (p.kids.map aA.av) p.kcl) (.int .i64 p.kids.length) (.int .i64 d.length) /\
  Gr hp (kb+13) v xs/\xs.length=d.length/\lM c'/\Ev ev em a env c' 0 hp/\cT h hp kb/\hZ (p.kids.map (evU arrs)) env [] c=hZ (r.map (evU arrs)) env xs c') ?_ ?_ ?_
 refine⟨_,[],c,rfl,.inl ⟨true,true,rfl,rfl⟩,rfl,hcn,hv.mono ?_ ?_ ?_,?_,rfl⟩<;>dsimp only;rw[aB,if_neg (by omega)];rw[aB,if_neg (by omega)];intro q h1 h2;rw[aB,if_neg (by omega)];intro q h1 h2 h3 h4;rw[aB,if_neg (by omega)];rintro e hp ⟨v,xs,c',rfl,hg,hl,hcn',hv,hkp,hI⟩;simp only[ET,EU,aY,go_sem,seval];rw[hI];exact⟨hkp,hg,hv⟩;rintro d x r e hp hes ⟨v,xs,c',rfl,hg,hl,hcn',hv,hkp,hI⟩;obtain⟨hget,e1,e2,ew⟩:=cG hes hk;have hxm:x∈p.kids:=by rw[hes];simp
 have hdl:d.length<p.kids.length:=by rw[hes];simp
 have hvH:∀o1 o2,Ev ev em a env c' 0 ((hp.put (kb+5) (hp.next (kb+5)) o1).put (kb+5) (hp.next (kb+5)) o2):=by intro o1 o2;refine hv.mono ?_ ?_ ?_;rw[aB,if_neg (by omega),aB,if_neg (by omega)];rw[aB,if_neg (by omega),aB,if_neg (by omega)];intro q h1 h2;rw[aB,if_neg (by omega),aB,if_neg (by omega)]
 have hkH:∀o1 o2,cT h ((hp.put (kb+5) (hp.next (kb+5)) o1).put (kb+5) (hp.next (kb+5)) o2) kb:=by intro o1 o2 q h1 h2 h3 h4;rw[aB,if_neg (by omega),aB,if_neg (by omega)];exact hkp q h1 h2 h3 h4
 rw[List.map_cons,hZ]at hI;simp only[ET,EU,e1,e2,hget,go_sem,seval];rw[<-aA.avc];refine aN (.inl rfl) (B:=(kb+9+1)*65536) (by rw[aA.av_eq x];rfl) (ih x hxm ev em c' _ _ (by omega) (by omega) hcn' (hvH _ _)) ?_;generalize hH:((hp.put (kb+5) _ _).put (kb+5) _ _:Hp)=H;have hgH:Gr H (kb+13) v xs:=hg.mono (by rw[<-hH,aB,if_neg (by omega),aB,if_neg (by omega)]);have hkH':cT h H kb:=by rw[<-hH];exact hkH _ _
 rintro r' h' ⟨q1,q2⟩;have hg':Gr h' (kb+13) v xs:=hgH.mono (q1 _ (by omega) (by omega) (by omega) (by omega));have hk':cT h h' kb:=hkH'.trans q1 (by omega);cases hE:evU arrs x env c' with
 |er e=>
  rw[hE]at q2 hI;obtain⟨⟨m,rfl⟩,he,env',c'',q4⟩:=q2;refine Wk ?_;refine oG (s:=13) (k1:=kb+13) (es:=xs) hg' (by simp only[big]at hk;omega) (by decide) ?_;intro v' rd pa ho' hk2;generalize Eff.app h' (.pat rd pa)=H2 at *;have q5:Ev ev em a env' c'' e H2:=q4.mono (hk2 _ (by omega) (by omega)) (hk2 _ (by omega) (by omega)) (λq h1 h2=>hk2 q (by omega) (by omega));have q6:cT h H2 kb:=λq h1 h2 h3 h4=>(hk2 q (by omega) (by omega)).trans (hk' q h1 h2 h3 h4);have q5':=q5;obtain⟨vi,bs,ck,a1,a2,a3⟩:=q5;have hne:decide (e=0)=false:=by simp[he]
  simp only[a1,fD,hne,go_sem,seval];rw[hI];exact⟨q6,he,env',c'',q5'⟩
 |ok n c2=>rw[hE]at q2 hI;obtain⟨rfl,q4⟩:=q2;refine Wk ?_;refine oG (s:=13) (k1:=kb+13) (es:=xs) hg' (by simp only[big]at hk;omega) (by decide) ?_;intro v' rd pa ho' hk2;generalize Eff.app h' (.pat rd pa)=H2 at *;have q5:Ev ev em a env c2 0 H2:=q4.mono (hk2 _ (by omega) (by omega)) (hk2 _ (by omega) (by omega)) (λq h1 h2=>hk2 q (by omega) (by omega));have q6:cT h H2 kb:=λq h1 h2 h3 h4=>(hk2 q (by omega) (by omega)).trans (hk' q h1 h2 h3 h4);have q5':=q5;obtain⟨vi,bs,ck,a1,a2,a3⟩:=q5;simp only[a1,fD,ew,go_sem,seval];exact⟨v',_,c2,rfl,ho',by simp;omega,hcn'.bnd (kO arrs x env c' _ c2 hcn'.1 hcn'.2.2 hE),q5',q6,hI⟩
end
end
section
section
variable{pg:Pg}
end
end
section
section
variable{pg:Pg}
end
end
section
end
section
def Lin.strip(l:Lin):Lin:=⟨l.c,⟨false,l.ts.es,false,l.ts.ok⟩⟩
def aH.strip(s:aH):aH:=⟨s.op,s.num,⟨false,s.args.es,false,s.args.ok⟩⟩
def Sl.mapS{α : Type}(f : α -> α)(s:Sl α):Sl α:=⟨false,s.es.map f,false,by simpa using s.ok⟩
mutual
def aA.strip:aA->aA
 |.mk op num value name at_ dyn check fn _ kids _ => .mk op num value name (at_.mapS Lin.strip) dyn check (fn.mapS aH.strip) false (aA.strips kids) false
def aA.strips:List aA->List aA
 |[]=>[]
 |p::r=>p.strip::aA.strips r
end
theorem aA.strips_eq:∀l:List aA,aA.strips l=l.map aA.strip
 |[]=>by simp[aA.strips]
 |p::r=>by simp[aA.strips,aA.strips_eq r]
theorem aA.strip_eq(p:aA):p.strip = .mk p.op p.num p.value p.name (p.at_.mapS Lin.strip) p.dyn p.check (p.fn.mapS aH.strip) false (p.kids.map aA.strip) false:=by cases p;rw[aA.strip,aA.strips_eq];rfl
def Loop.strip(x:Loop):Loop:=⟨x.v,x.lo.strip,x.hi.mapS Lin.strip,x.step⟩
def eC.strip(n:eC):eC:=⟨n.loops.mapS Loop.strip,n.value,n.at_.mapS Lin.strip,n.dyn,n.index.strip,n.check,n.body.strip⟩
theorem C6(ls:List Lin)(vars:List Str):eK (ls.map Lin.strip) vars=eK ls vars:=by simp only[eK,List.all_map];rfl
theorem qK:∀(fn:List aH)(n:Int),bQ n (fn.map aH.strip)=bQ n fn
 |[],_=>rfl
 |s::r,n=>by rw[List.map_cons,bQ,bQ,qK r];rfl
theorem DM(fn:List aH)(n:Int):bK (fn.map aH.strip) n=bK fn n:=by rw[bK,bK,qK,bD]
theorem sU(p:aA)(a b c d e f:Bool):cQ p.strip a b c d e f=cQ p a b c d e f:=by rw[aA.strip_eq];simp only[cQ,aA.num,aA.value,aA.name,aA.at_,aA.dyn,aA.check,aA.fn,Sl.mapS,bD];cases p;rfl
theorem DA(p:aA)(vars:List Str)(v:Int):bZ p.strip vars v=bZ p vars v:=by
 have h1:kZ p.strip v=kZ p v:=by simp only[kZ,sU];rw[aA.strip_eq];simp only[aA.value,aA.at_,aA.dyn,aA.check,aA.kids,Sl.mapS,bD];cases p;rfl
 simp only[bZ,sU,h1];rw[aA.strip_eq];simp only[aA.op,aA.num,aA.name,aA.at_,aA.kids,aA.fn,Sl.mapS,bD,DM];cases p;rfl
mutual
theorem CN(v:Int):∀(p:aA)(vars:List Str),eJ v p.strip vars=eJ v p vars
 |.mk op num value name at_ dyn check fn knl kids kcl,vars=>by have h:=DA (.mk op num value name at_ dyn check fn knl kids kcl) vars v;rw[aA.strip]at h ⊢;rw[eJ,eJ,h,qI v _ _ _ kids];simp only[Sl.mapS,C6]
theorem qI(v:Int)(red:Bool)(name:Str)(vars:List Str):∀(kids:List aA)(i:Nat),cU v red name vars i (aA.strips kids)=cU v red name vars i kids
 |[],i=>by rw[aA.strips]
 |k::r,i=>by rw[aA.strips,cU,cU,CN v k,qI v red name vars r]
end
mutual
theorem C9:∀p:aA,kI p.strip=kI p
 |.mk op num value name at_ dyn check fn knl kids kcl=>by rw[aA.strip,kI,kI,rS kids]
theorem rS:∀(l:List aA)(a:Int),jN a (aA.strips l)=jN a l
 |[],a=>by rw[aA.strips]
 |p::r,a=>by rw[aA.strips,jN,jN,C9 p,rS r]
end
mutual
theorem aA.strip_strip:∀p:aA,p.strip.strip=p.strip
 |.mk op num value name at_ dyn check fn knl kids kcl=>by rw[aA.strip,aA.strip,aA.strips_strips kids];simp only[Sl.mapS,List.map_map];rfl
theorem aA.strips_strips:∀l:List aA,aA.strips (aA.strips l)=aA.strips l
 |[]=>by rw[aA.strips,aA.strips]
 |p::r=>by rw[aA.strips,aA.strips,aA.strip_strip p,aA.strips_strips r]
end
mutual
theorem aA.ok_strip:∀p:aA,p.strip.ok↔p.ok
 |.mk op num value name at_ dyn check fn knl kids kcl=>by rw[aA.strip,aA.ok,aA.ok,aA.oks_strip kids,aA.strips_eq,bD]
theorem aA.oks_strip:∀l:List aA,aA.oks (aA.strips l)↔aA.oks l
 |[]=>by rw[aA.strips]
 |p::r=>by rw[aA.strips,aA.oks,aA.oks,aA.ok_strip p,aA.oks_strip r]
end
mutual
theorem aA.sz_strip:∀p:aA,p.strip.sz=p.sz
 |.mk op num value name at_ dyn check fn knl kids kcl=>by rw[aA.strip,aA.sz,aA.sz,aA.szL_strip kids]
theorem aA.szL_strip:∀l:List aA,aA.szL (aA.strips l)=aA.szL l
 |[]=>by rw[aA.strips]
 |p::r=>by rw[aA.strips,aA.szL,aA.szL,aA.sz_strip p,aA.szL_strip r]
end
end
section
section
variable{pg:Pg}
end
end
end Go.Tev
