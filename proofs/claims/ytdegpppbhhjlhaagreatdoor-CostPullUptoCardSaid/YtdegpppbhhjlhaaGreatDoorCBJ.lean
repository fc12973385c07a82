import Derived.Test.YtdegpppbhhjlhaaGreatDoorCBI
import Derived.Test.YtdegpppbhhjlhaaGreatDoorCAI
import Derived.Test.YtdegpppbhhjlhaaGreatDoorCAM
import Derived.Test.YtdegpppbhhjlhaaGreatDoorCAR
import Derived.Test.YtdegpppbhhjlhaaGreatDoorCAT
set_option linter.all false
namespace Go.Tev
section
def EvR(pg:Pg)(arrs:List Arr)(a:AV)(q:aA)(env:List Val):Prop:=∀(er:Nat)(c:Cn)(kb:Nat)(h:Hp)(w:AV),65536<=kb->kb % 65536=0->rT c->Rn er a c h->jY h kb w env ->
 cW pg 944 [.pt 29 er 0,q.av,w] kb h (RnP er a h kb (evU arrs q env c))
theorem IE:∀{dyn:Bool}{ix ds:List Int}{n:Int},gZ dyn ix ds=0->ix.length=ds.length->∃k,qB n ds ix=some k
 |_,[],[],n,_,_=>⟨n,rfl⟩
 |dyn,x::r,d::s,n,h,hl=>by simp only[gZ]at h;split at h;rename_i hx;obtain⟨k,hk⟩:=IE (n:=wr .i64 (wr .i64 (n*d)+x)) h (by simpa using hl);exact⟨k,by simp only[qB];rw[if_neg (by omega)];exact hk⟩;split at h;cases h;cases h
 |_,[],_::_,_,_,hl=>by simp at hl
 |_,_::_,[],_,_,hl=>by simp at hl
theorem aEJ{a:Arr}{dyn:Bool}{ix:List Int}(ha:mZ a=true)(hs:gZ dyn ix a.dims.es=0)(hl:(ix.length:Int)=a.dims.es.length):(atA a ix).2=0:=by
 have hz:(eS a.dims.es).2=0:=by simp only[mZ,aD,bC]at ha;exact ha.2.1
 obtain⟨k,hk⟩:=IE (n:=0) hs (by omega);have ho:(lO a.dims.es ix).2=0:=by rw[lO,if_neg (by simpa using hz),if_neg (by simpa using hl),hk]
 rw[atA,if_neg (by simp[ha]),if_neg (by simpa using ho)]
theorem IR:∀(l acc:List Int),(eX acc l).length<=acc.length+l.length
 |[],acc=>by simp[eX]
 |x::r,acc=>by have h1:=IR r (fC x acc);have h2:=zK x acc;simp only[eX,List.foldl_cons,List.length_cons]at h1 ⊢;omega
section
variable{pg:Pg}
set_option maxRecDepth 100000 in
set_option maxHeartbeats 1000000 in
theorem c951(hf:pg.fs 951=some DT)(h55:pg.fs 55=some s9)(h949:∀(l:Lin) nl cl (env:List Val),env.length<=big->kN env->(∀t∈l.ts.es,(lU env t.v.bs).isSome=true)->Ret pg 949 [l.av,.sl nl (env.map Val.av) cl] (pI (nB env l)))
  (arrs:List Arr) (anl acl:Bool) (er:Nat) (env:List Val) (c:Cn) (kb:Nat) (h:Hp) (w:AV) (hkb:65536<=kb) (hkb2:kb % 65536=0) (hkb3:kb / 65536 % 65536=14) (hcn:rT c)
  (hv:Rn er (.sl anl (arrs.map Arr.av) acl) c h) (hw:jY h kb w env) (heb:env.length<=big) (hed:kN env) (p:aA) (ih:∀q∈p.kids,EvR pg arrs (.sl anl (arrs.map Arr.av) acl) q env) (a:Arr) (ha0:0<=p.value) (ha:arrs[p.value.toNat]?=some a) (hao:mZ a=true)
  (hfd:∀l∈p.at_.es,∀t∈l.ts.es,(lU env t.v.bs).isSome=true) (hck:0<=p.check) (hkd:p.kids.length=if p.dyn then 1 else 0) (hat:p.at_.es.length<=6)
  (h957:∀nl cl ix,Ret pg 957 [a.av,.sl nl (ix.map aH) cl] (atV a ix)) :
  cW pg 951 [.pt 29 er 0,p.av,w] kb h (RnP er (.sl anl (arrs.map Arr.av) acl) h kb (pG arrs p (p.kids.map (evU arrs)) env c)):=by
 obtain⟨A,hA⟩:∃A,A=AV.sl anl (arrs.map Arr.av) acl:=⟨_,rfl⟩
 rw[<-hA]at hv ih ⊢;refine cW.ofX hf ?_;unfold DT;have n28:(kb=28)=False:=eq_false (by omega);obtain⟨H,hH⟩:∃H:Hp,H=h.put (kb+1) (h.next (kb+1)) (.blk p.cells 9 true true false):=⟨_,rfl⟩
 have hb1:H.get (kb+1)=some (h.next (kb+1),.blk p.cells 9 true true false):=by rw[hH,aB,if_pos rfl]
 have hoH:∀q,q≠kb+1->H.get q=h.get q:=by intro q hq;rw[hH,aB,if_neg (Ne.symm hq)]
 have hvH:Rn er A c H:=by obtain⟨vi,a1,a2⟩:=hv;exact⟨vi,(hoH _ (by omega)).trans a1,a2.mono (λq h1 h2=>hoH q (by omega))⟩
 have hkH:dH h H kb:=λq h1 h2 h3=>hoH q (by omega);have hwH:jY H kb w env:=hw.mono hkH (Nat.le_refl _);simp only[aA.cells,aA.kav,Sl.av]at hH;have hb1':=hb1;simp only[aA.cells,aA.kav,Sl.av]at hb1';have n9:(29=kb+9)=False:=eq_false (by omega);have n1':(29=kb+1)=False:=eq_false (by omega);have hat2:=p.at_.ok;obtain⟨T,hT⟩:∃T,T=pG arrs p (p.kids.map (evU arrs)) env c:=⟨_,rfl⟩
 rw[<-hT];have ha0':(0<=p.value)=True:=eq_true ha0;have n20:(kb=20)=False:=eq_false (by omega);have k8k:(kb=kb+8)=False:=eq_false (by omega);cases hdy:p.dyn
 case false=>
  have hk0:p.kids=[]:=by rw[hdy]at hkd;simpa using hkd
  obtain⟨ys,hys⟩:∃ys:List Int,ys=[]:=⟨_,rfl⟩
  obtain⟨c2,hc2⟩:∃c2,c2=c:=⟨_,rfl⟩
  obtain⟨n0,hn0⟩:∃n:Int,n=0:=⟨0,rfl⟩
  obtain⟨last,hlast⟩:∃n:Int,n=n0:=⟨n0,rfl⟩
  have hK:jK (p.kids.map (evU arrs)) env [] c = .ok ys c2:=by rw[hk0,hys,hc2];rfl
  have hvc:Rn er A c2 H:=by rw[hc2];exact hvH
  have hcn2:rT c2:=by rw[hc2];exact hcn
  have hya:ys=if p.dyn then [last] else []:=by rw[hys,hdy];rfl
  have hkc:dH h H kb:=hkH;have hwc:jY H kb w env:=hwH;have hbc:=hb1;simp only[hdy]at hH hb1';obtain⟨vi0,a1,a2⟩:=hv;subst hA;simp only[hdy,a1,pZ,n28,n9,n1',k8k,ha0',ha,go_sem,seval];rw[<-hH];refine And.intro (by simp[bT,bS,R.apart,R.uses,X.tmp,Eff.apart,lP,Nat.testBit,n20]) ?_;obtain⟨e9,he9⟩:∃e,e=h.next (kb+9):=⟨_,rfl⟩
  rw[<-he9];obtain⟨H3,hH3⟩:∃H3:Hp,H3=(H.put (kb+9) e9 (.blk [.str [],.sl true [] true,.sl true [] true] 3 true true false)).put (kb+9) e9 (.blk [.str a.elem.bs,.sl a.dims.nl (a.dims.es.map aH) a.dims.cl,.sl a.data.nl (a.data.es.map aH) a.data.cl] 3 true true false):=⟨_,rfl⟩
  rw[<-hH3];have h3o:∀q,q≠kb+9->H3.get q=H.get q:=by intro q hq;rw[hH3,aB,if_neg (by omega),aB,if_neg (by omega)]
  have h3a:H3.get (kb+9)=some (e9,.blk [.str a.elem.bs,.sl a.dims.nl (a.dims.es.map aH) a.dims.cl,.sl a.data.nl (a.data.es.map aH) a.data.cl] 3 true true false):=by rw[hH3,aB,if_pos rfl]
  have hk3:dH h H3 kb:=λq h1 h2 h3=>(h3o q (by omega)).trans (hkc q h1 h2 h3);have hw3:jY H3 kb w env:=hwc.mono (λq h1 h2 h3=>h3o q (by omega)) (Nat.le_refl _);have hb3:H3.get (kb+1)=some (h.next (kb+1),.blk p.cells 9 true true false):=(h3o _ (by omega)).trans hbc;have hv3:Rn er (.sl anl (arrs.map Arr.av) acl) c2 H3:=by obtain⟨vi,z1,z2⟩:=hvc;exact⟨vi,(h3o _ (by omega)).trans z1,z2.mono (λq h1 h2=>h3o q (by omega))⟩
  subst hn0;have hlen:ys.length<=1:=by rw[hya];split<;>simp
  refine aN p.at_.es (λd r e hp=>∃v xs,e=pA (.pt 29 er 0) w (.pt (kb+1) (h.next (kb+1)) 0) (.int .i64 last) (.pt (kb+9) e9 0) v (.int .i64 d.length) /\
   hp.get (kb+1)=some (h.next (kb+1),.blk p.cells 9 true true false)/\hp.get (kb+9)=some (e9,.blk [.str a.elem.bs,.sl a.dims.nl (a.dims.es.map aH) a.dims.cl,.sl a.data.nl (a.data.es.map aH) a.data.cl] 3 true true false) /\
   Own hp (kb+17) 1 false v (xs.map aH)/\xs.length=d.length/\Rn er (.sl anl (arrs.map Arr.av) acl) c2 hp/\dH h hp kb/\jY hp kb w env/\BZ env p.at_.es []=BZ env r xs) ?_ ?_ ?_
  exact⟨_,[],by subst hlast;rfl,hb3,h3a,Own.nil _ _ _ _ _ _ rfl,rfl,hv3,hk3,hw3,rfl⟩
  ·clear h3a hb3 hv3 hk3 hw3 h3o hH3;rintro e hp ⟨v,xs,rfl,hb,h3a,ho,hl,hv3,hk3,hw3,hI⟩;have hI:BZ env p.at_.es []=some xs:=hI;have hb0:=hb;simp only[aA.cells,aA.kav,Sl.av]at hb0;obtain⟨zs,hzs⟩:∃zs,zs=xs++ys:=⟨_,rfl⟩
   have hg2:Gr hp (kb+17) v zs:=by rw[hzs,hys,List.append_nil];exact ho.gr
   have hfl:=λh'=>hg2.flen h';have hvz:=hv3;have hbz:=hb;have haz:=h3a;have hkz:=hk3;have hzl:zs.length<=7:=by rw[hzs,dA];omega
   have hbz0:=hbz;simp only[aA.cells,aA.kav,Sl.av]at hbz0;have hT2:T=qA a p.dyn p.check zs c2:=by rw[hT,pG,hK];simp only[hI,ha,hzs]
   cases b1:decide ((zs.length:Int)=a.dims.es.length)
   case false=>have hR:T = .er 13:=hT2.trans (if_pos (aP b1));simp only[rJ,pA,hb0,hdy,bH,haz,↓hfl,b1,hR,go_sem,seval];exact⟨hkz,by decide,0,rfl⟩
   have m1:=aF b1;have hR:T=if gZ p.dyn zs a.dims.es=2 then .er 2 else
     if gZ p.dyn zs a.dims.es=1 then .ok 0 {c2 with rd:=wr .i64 (c2.rd+1),vi:=if p.check=0 then c2.vi else c2.vi++[p.check]} else
     .ok (atA a zs).1 {c2 with rd:=wr .i64 (c2.rd+1)}:=by rw[hT2,qA,if_neg (by simpa using m1)]
   obtain⟨vi,z1,z2⟩:=hvz;simp only[rJ,pA,hb0,hdy,bH,haz,↓hfl,b1,z1,pZ,go_sem,seval];obtain⟨H4,hH4⟩:∃H4:Hp,H4=hp.put 29 er (.blk [.sl anl (arrs.map Arr.av) acl,.int .i64 (wr .i64 (c2.rd+1)),.int .i64 0,.int .i64 c2.ops,.int .i64 0,vi,.int .i64 c2.wk] 7 true true false):=⟨_,rfl⟩
   rw[<-hH4];have h4o:∀q,q≠29->H4.get q=hp.get q:=by intro q hq;rw[hH4,aB,if_neg (Ne.symm hq)]
   have h4v:H4.get 29=some (er,.blk [.sl anl (arrs.map Arr.av) acl,.int .i64 (wr .i64 (c2.rd+1)),.int .i64 0,.int .i64 c2.ops,.int .i64 0,vi,.int .i64 c2.wk] 7 true true false):=by rw[hH4,aB,if_pos rfl]
   have h4k:dH h H4 kb:=λq h1 h2 h3=>(h4o q h2).trans (hkz q h1 h2 h3);have h4b:=(h4o (kb+1) (by omega)).trans hbz0;have h4a:=(h4o (kb+9) (by omega)).trans haz;have h4g:Gr H4 (kb+17) v zs:=hg2.mono (h4o _ (by omega));have h4z:LO H4 vi (eX [] c2.vi):=z2.mono (λq h1 h2=>h4o q (by omega));have hzb:zs.length<=big:=by simp only[big];omega
   refine aN zs (λd r e hp=>e=lD (.pt 29 er 0) (.pt (kb+1) (h.next (kb+1)) 0) (.pt (kb+9) e9 0) v (.int .i64 d.length)/\hp=H4 /\
    gZ p.dyn zs a.dims.es=gZ p.dyn r (a.dims.es.drop d.length)) ?_ ?_ ?_
   exact⟨rfl,rfl,rfl⟩;rintro e hp5 ⟨rfl,rfl,hI⟩;have hs0:gZ p.dyn zs a.dims.es=0:=hI;rw[if_neg (by rw[hs0];decide),if_neg (by rw[hs0];decide)]at hR;obtain⟨n4,c4,keys,hsn,_⟩:=h4g.snap1;simp only[l6,lD,bH,↓hfl,h4a,go_sem,seval];rw[<-Arr.avc];refine fB (h957 n4 c4 zs) (eY (Arr.tree_av a) hsn) rfl rfl ?_;have hz0:=aEJ hao hs0 m1;simp only[atV,hR,hz0,go_sem,seval];exact⟨h4k,rfl,vi,h4v,h4z⟩
   ·rintro d x r e hp5 hes ⟨rfl,rfl,hI⟩;obtain⟨hget,e1,e2,ew⟩:=cY hes hzb;have hd:d.length<a.dims.es.length:=by
     have:d.length<zs.length:=by rw[hes];simp
     omega
    obtain⟨y,gy⟩:∃y,a.dims.es[d.length]?=some y:=⟨a.dims.es[d.length]'hd,cK hd⟩
    have hdr:a.dims.es.drop d.length=y::a.dims.es.drop (d++[x]).length:=by rw[nQ hd,(cP.1 gy).2];simp
    rw[hdr,gZ]at hI;have f1:((d.length:Int)<(a.dims.es.length:Int))=True:=eq_true (by omega);obtain⟨pp,rd,g1,g2⟩:=h4g.at (i:=(d.length:Int)) (by omega) (by simpa using hget);have hzd:zs.length=d.length+(r.length+1):=by rw[hes];simp
    have w1:wr .i64 ((zs.length:Int)-1)=(zs.length:Int)-1:=gH (by omega) (by omega);have hin:decide (0<=x)=true->decide (x<y)=true->gZ p.dyn zs a.dims.es=gZ p.dyn r (a.dims.es.drop (d++[x]).length):=by intro b1 b2;rw[hI,if_pos ⟨aF b1,aF b2⟩]
    have hout:¬(0<=x/\x<y)->gZ p.dyn zs a.dims.es=if p.dyn=false\/r≠[] then 2 else 1:=by intro b;rw[hI,if_neg b]
    cases b2:decide (0<=x)
    case' false=>have ho:=hout (by simp at b2;omega)
    case' true=>
     cases b3:decide (x<y)
     case true=>simp only[l6,lD,↓hfl,e1,e2,↓g1,↓g2,b2,b3,gy,f1,h4a,go_sem,seval];refine cB ?_;simp only[ew,go_sem,seval];exact⟨rfl,hin b2 b3⟩
     have ho:=hout (by simp at b3;omega)
    all_goals
     rw[if_pos (.inl hdy)]at ho;rw[if_pos ho]at hR;simp only[l6,lD,↓hfl,e1,e2,↓g1,↓g2,b2,gy,f1,h4a,go_sem,seval]
     try simp only[b3,gy,f1,h4a,go_sem,seval]
     refine cB ?_;simp only[h4b,hdy,hR,go_sem,seval];exact⟨h4k,by decide,0,rfl⟩
  ·rintro d x r e hp hes ⟨v,xs,rfl,hb,h3a,ho,hl,hv3,hk3,hw3,hI⟩;obtain⟨hget,e1,e2,ew⟩:=cY hes hat2;have hdl:d.length<p.at_.es.length:=by rw[hes];simp
   rw[BZ]at hI;have hb0:=hb;simp only[aA.cells,aA.kav,Sl.av]at hb0;obtain⟨n5,c5,keys,hsn⟩:=hw3.snap1;simp only[rJ,pA,hb0,e1,e2,hget,go_sem,seval]
   try rw[<-Lin.avc]
   cases hL:nB env x with
   |none=>
    rw[hL]at hI;have h9:=h949 x n5 c5 env heb hed (hfd x (by rw[hes];simp));rw[hL]at h9;refine fB h9 (eY (Lin.tree_av x) hsn) rfl rfl ?_;have hTv:T = .er 3:=by rw[hT,pG,hK];simp only[hI]
    simp only[pI,hTv,go_sem,seval];exact⟨hk3,by decide,0,rfl⟩
   |some n=>
    rw[hL]at hI;have h9:=h949 x n5 c5 env heb hed (hfd x (by rw[hes];simp));rw[hL]at h9;refine fB h9 (eY (Lin.tree_av x) hsn) rfl rfl ?_;simp only[pI,go_sem,seval];refine m8 (s:=17) (es:=xs.map aH) ho (El.ints _) (xs:=[.int .i64 n]) (by intro z hz;simp at hz;subst hz;exact⟨rfl,rfl,rfl⟩) (by simp only[bU,List.length_singleton];omega) (by decide) ?_;intro v' rd pa ho2 hk2 _;generalize Eff.app hp (.pat rd pa)=Hz at *;have hzo:∀q,q≠kb+17->Hz.get q=hp.get q:=λq h1=>hk2 q h1;have hvz:Rn er (.sl anl (arrs.map Arr.av) acl) c2 Hz:=by obtain⟨vi,z1,z2⟩:=hv3;exact⟨vi,(hzo _ (by omega)).trans z1,z2.mono (λq h1 h2=>hzo q (by omega))⟩
    simp only[ew,go_sem,seval];exact⟨v',xs++[n],rfl,(hzo _ (by omega)).trans hb,(hzo _ (by omega)).trans h3a,by simpa[aH] using ho2,by simp;omega,hvz,λq h1 h2 h3=>(hzo q (by omega)).trans (hk3 q h1 h2 h3),hw3.mono (λq h1 h2 h3=>hzo q (by omega)) (Nat.le_refl _),hI⟩
 case true=>
  obtain⟨k0,hk0⟩:∃k0,p.kids=[k0]:=by
   rw[hdy]at hkd;rcases hp:p.kids with _|⟨k0,_|⟨y,z⟩⟩
   rw[hp]at hkd;simp at hkd;exact⟨k0,rfl⟩;rw[hp]at hkd;simp at hkd
  have hk1:p.kids[0]?=some k0:=by rw[hk0];rfl
  simp only[hdy]at hH hb1';simp only[hdy,hk1,go_sem,seval];rw[<-hH];refine eA (.inl rfl) (B:=(kb+5+1)*65536) (jW hwH ⟨_,_,_,rfl⟩ (by rw[aA.av_eq];rfl)) (ih k0 (by rw[hk0];simp) er c _ H w (by omega) (by omega) hcn hvH (hwH.mono (dH.refl _ _) (by omega))) ?_;rintro r0 H2 ⟨q1,q2⟩;cases hE:evU arrs k0 env c with
  |er e=>
   rw[hE]at q2;obtain⟨he,m,rfl⟩:=q2;have hne:decide (e=0)=false:=by simp[he]
   have hK:jK (p.kids.map (evU arrs)) env [] c = .er e:=by rw[hk0];simp only[List.map_cons,jK,hE]
   have hTv:T = .er e:=by rw[hT,pG,hK]
   simp only[hne,hTv,go_sem,seval];exact⟨hkH.trans q1 (by omega),he,0,rfl⟩
  |ok n0 c2=>
  rw[hE]at q2;obtain⟨rfl,hvc⟩:=q2;obtain⟨ys,hys⟩:∃ys:List Int,ys=[n0]:=⟨_,rfl⟩
  obtain⟨last,hlast⟩:∃m:Int,m=n0:=⟨n0,rfl⟩
  have hK:jK (p.kids.map (evU arrs)) env [] c = .ok ys c2:=by rw[hk0,hys];simp only[List.map_cons,List.map_nil,jK,hE];rfl
  have hcn2:rT c2:=hcn.bnd (uF arrs k0 env c n0 c2 hcn.1 hcn.2.2 hE);have hya:ys=if p.dyn then [last] else []:=by rw[hys,hdy,hlast];rfl
  have hkc:dH h H2 kb:=hkH.trans q1 (by omega);have hwc:jY H2 kb w env:=hwH.mono (λq b1 b2 b3=>q1 q (by omega) b2 b3) (Nat.le_refl _);have hbc:=(q1 (kb+1) (by omega) (by omega) (by omega)).trans hb1;have hbc':=(q1 (kb+1) (by omega) (by omega) (by omega)).trans hb1';have hvc':=hvc;obtain⟨vi0,a1,a2⟩:=hvc';subst hA;simp only[hdy,a1,pZ,n28,n9,n1',ha0',ha,hbc',go_sem,seval];refine And.intro (by simp[bT,bS,R.apart,R.uses,X.tmp,Eff.apart,lP,Nat.testBit,n20]) ?_;obtain⟨e9,he9⟩:∃e,e=H2.next (kb+9):=⟨_,rfl⟩
  rw[<-he9];obtain⟨H3,hH3⟩:∃H3:Hp,H3=(H2.put (kb+9) e9 (.blk [.str [],.sl true [] true,.sl true [] true] 3 true true false)).put (kb+9) e9 (.blk [.str a.elem.bs,.sl a.dims.nl (a.dims.es.map aH) a.dims.cl,.sl a.data.nl (a.data.es.map aH) a.data.cl] 3 true true false):=⟨_,rfl⟩
  rw[<-hH3];have h3o:∀q,q≠kb+9->H3.get q=H2.get q:=by intro q hq;rw[hH3,aB,if_neg (by omega),aB,if_neg (by omega)]
  have h3a:H3.get (kb+9)=some (e9,.blk [.str a.elem.bs,.sl a.dims.nl (a.dims.es.map aH) a.dims.cl,.sl a.data.nl (a.data.es.map aH) a.data.cl] 3 true true false):=by rw[hH3,aB,if_pos rfl]
  have hk3:dH h H3 kb:=λq h1 h2 h3=>(h3o q (by omega)).trans (hkc q h1 h2 h3);have hw3:jY H3 kb w env:=hwc.mono (λq h1 h2 h3=>h3o q (by omega)) (Nat.le_refl _);have hb3:H3.get (kb+1)=some (h.next (kb+1),.blk p.cells 9 true true false):=(h3o _ (by omega)).trans hbc;have hv3:Rn er (.sl anl (arrs.map Arr.av) acl) c2 H3:=by obtain⟨vi,z1,z2⟩:=hvc;exact⟨vi,(h3o _ (by omega)).trans z1,z2.mono (λq h1 h2=>h3o q (by omega))⟩
  have hlen:ys.length<=1:=by rw[hya];split<;>simp
  refine aN p.at_.es (λd r e hp=>∃v xs,e=pA (.pt 29 er 0) w (.pt (kb+1) (h.next (kb+1)) 0) (.int .i64 last) (.pt (kb+9) e9 0) v (.int .i64 d.length) /\
   hp.get (kb+1)=some (h.next (kb+1),.blk p.cells 9 true true false)/\hp.get (kb+9)=some (e9,.blk [.str a.elem.bs,.sl a.dims.nl (a.dims.es.map aH) a.dims.cl,.sl a.data.nl (a.data.es.map aH) a.data.cl] 3 true true false) /\
   Own hp (kb+17) 1 false v (xs.map aH)/\xs.length=d.length/\Rn er (.sl anl (arrs.map Arr.av) acl) c2 hp/\dH h hp kb/\jY hp kb w env/\BZ env p.at_.es []=BZ env r xs) ?_ ?_ ?_
  exact⟨_,[],by subst hlast;rfl,hb3,h3a,Own.nil _ _ _ _ _ _ rfl,rfl,hv3,hk3,hw3,rfl⟩
  ·clear h3a hb3 hv3 hk3 hw3 h3o hH3;rintro e hp ⟨v,xs,rfl,hb,h3a,ho,hl,hv3,hk3,hw3,hI⟩;have hI:BZ env p.at_.es []=some xs:=hI;have hb0:=hb;simp only[aA.cells,aA.kav,Sl.av]at hb0;simp only[rJ,pA,hb0,hdy,bH,go_sem,seval];refine BN (s:=21) (k1:=kb+17) (es:=xs) ho.gr (by omega) (by decide) ?_;intro v' rd pa hg hoth;generalize Eff.app hp (.pat rd pa)=Hz at *;have hzo:∀q,q≠kb+21->q≠kb+17->Hz.get q=hp.get q:=λq h1 h2=>hoth q h1 h2;obtain⟨zs,hzs⟩:∃zs,zs=xs++ys:=⟨_,rfl⟩
   have hg2:Gr Hz (kb+21) v' zs:=by rw[hzs,hys,<-hlast];exact hg
   have hvz:Rn er (.sl anl (arrs.map Arr.av) acl) c2 Hz:=by obtain⟨vi,z1,z2⟩:=hv3;exact⟨vi,(hzo _ (by omega) (by omega)).trans z1,z2.mono (λq h1 h2=>hzo q (by omega) (by omega))⟩
   have hbz:Hz.get (kb+1)=some (h.next (kb+1),.blk p.cells 9 true true false):=(hzo _ (by omega) (by omega)).trans hb;have haz:=(hzo (kb+9) (by omega) (by omega)).trans h3a;have hkz:dH h Hz kb:=λq h1 h2 h3=>(hzo q (by omega) (by omega)).trans (hk3 q h1 h2 h3);have hfl:=λh'=>hg2.flen h';have hzl:zs.length<=7:=by rw[hzs,dA];omega
   have hbz0:=hbz;simp only[aA.cells,aA.kav,Sl.av]at hbz0;have hT2:T=qA a p.dyn p.check zs c2:=by rw[hT,pG,hK];simp only[hI,ha,hzs]
   cases b1:decide ((zs.length:Int)=a.dims.es.length)
   case false=>have hR:T = .er 13:=hT2.trans (if_pos (aP b1));simp only[haz,↓hfl,b1,hR,go_sem,seval];exact⟨hkz,by decide,0,rfl⟩
   have m1:=aF b1;have hR:T=if gZ p.dyn zs a.dims.es=2 then .er 2 else
     if gZ p.dyn zs a.dims.es=1 then .ok 0 {c2 with rd:=wr .i64 (c2.rd+1),vi:=if p.check=0 then c2.vi else c2.vi++[p.check]} else
     .ok (atA a zs).1 {c2 with rd:=wr .i64 (c2.rd+1)}:=by rw[hT2,qA,if_neg (by simpa using m1)]
   obtain⟨vi,z1,z2⟩:=hvz;simp only[haz,↓hfl,b1,z1,pZ,go_sem,seval];obtain⟨H4,hH4⟩:∃H4:Hp,H4=Hz.put 29 er (.blk [.sl anl (arrs.map Arr.av) acl,.int .i64 (wr .i64 (c2.rd+1)),.int .i64 0,.int .i64 c2.ops,.int .i64 0,vi,.int .i64 c2.wk] 7 true true false):=⟨_,rfl⟩
   rw[<-hH4];have h4o:∀q,q≠29->H4.get q=Hz.get q:=by intro q hq;rw[hH4,aB,if_neg (Ne.symm hq)]
   have h4v:H4.get 29=some (er,.blk [.sl anl (arrs.map Arr.av) acl,.int .i64 (wr .i64 (c2.rd+1)),.int .i64 0,.int .i64 c2.ops,.int .i64 0,vi,.int .i64 c2.wk] 7 true true false):=by rw[hH4,aB,if_pos rfl]
   have h4k:dH h H4 kb:=λq h1 h2 h3=>(h4o q h2).trans (hkz q h1 h2 h3);have h4b:=(h4o (kb+1) (by omega)).trans hbz0;have h4a:=(h4o (kb+9) (by omega)).trans haz;have h4g:Gr H4 (kb+21) v' zs:=hg2.mono (h4o _ (by omega));have h4z:LO H4 vi (eX [] c2.vi):=z2.mono (λq h1 h2=>h4o q (by omega));have hzb:zs.length<=big:=by simp only[big];omega
   refine aN zs (λd r e hp=>e=lD (.pt 29 er 0) (.pt (kb+1) (h.next (kb+1)) 0) (.pt (kb+9) e9 0) v' (.int .i64 d.length)/\hp=H4 /\
    gZ p.dyn zs a.dims.es=gZ p.dyn r (a.dims.es.drop d.length)) ?_ ?_ ?_
   exact⟨rfl,rfl,rfl⟩;rintro e hp5 ⟨rfl,rfl,hI⟩;have hs0:gZ p.dyn zs a.dims.es=0:=hI;rw[if_neg (by rw[hs0];decide),if_neg (by rw[hs0];decide)]at hR;obtain⟨n4,c4,keys,hsn,_⟩:=h4g.snap1;simp only[l6,lD,bH,↓hfl,h4a,go_sem,seval];rw[<-Arr.avc];refine fB (h957 n4 c4 zs) (eY (Arr.tree_av a) hsn) rfl rfl ?_;have hz0:=aEJ hao hs0 m1;simp only[atV,hR,hz0,go_sem,seval];exact⟨h4k,rfl,vi,h4v,h4z⟩
   ·rintro d x r e hp5 hes ⟨rfl,rfl,hI⟩;obtain⟨hget,e1,e2,ew⟩:=cY hes hzb;have hd:d.length<a.dims.es.length:=by
     have:d.length<zs.length:=by rw[hes];simp
     omega
    obtain⟨y,gy⟩:∃y,a.dims.es[d.length]?=some y:=⟨a.dims.es[d.length]'hd,cK hd⟩
    have hdr:a.dims.es.drop d.length=y::a.dims.es.drop (d++[x]).length:=by rw[nQ hd,(cP.1 gy).2];simp
    rw[hdr,gZ]at hI;have f1:((d.length:Int)<(a.dims.es.length:Int))=True:=eq_true (by omega);obtain⟨pp,rd,g1,g2⟩:=h4g.at (i:=(d.length:Int)) (by omega) (by simpa using hget);have hzd:zs.length=d.length+(r.length+1):=by rw[hes];simp
    have w1:wr .i64 ((zs.length:Int)-1)=(zs.length:Int)-1:=gH (by omega) (by omega);have hin:decide (0<=x)=true->decide (x<y)=true->gZ p.dyn zs a.dims.es=gZ p.dyn r (a.dims.es.drop (d++[x]).length):=by intro b1 b2;rw[hI,if_pos ⟨aF b1,aF b2⟩]
    have hout:¬(0<=x/\x<y)->gZ p.dyn zs a.dims.es=if p.dyn=false\/r≠[] then 2 else 1:=by intro b;rw[hI,if_neg b]
    cases b2:decide (0<=x)
    case' false=>have ho:=hout (by simp at b2;omega)
    case' true=>
     cases b3:decide (x<y)
     case true=>simp only[l6,lD,↓hfl,e1,e2,↓g1,↓g2,b2,b3,gy,f1,h4a,go_sem,seval];refine cB ?_;simp only[ew,go_sem,seval];exact⟨rfl,hin b2 b3⟩
     have ho:=hout (by simp at b3;omega)
    all_goals
     rcases r with _|⟨x2,r⟩
     rotate_left
     ·rw[if_pos (.inr (by simp))]at ho;rw[if_pos ho]at hR;have d1:decide ((d.length:Int)<(zs.length:Int)-1)=true:=by simp;simp at hzd;omega
      simp only[l6,lD,↓hfl,e1,e2,↓g1,↓g2,b2,gy,f1,h4a,go_sem,seval]
      try simp only[b3,gy,f1,h4a,go_sem,seval]
      refine cB ?_;simp only[h4b,hdy,↓hfl,w1,d1,hR,go_sem,seval];exact⟨h4k,by decide,0,rfl⟩
     ·rw[if_neg (by simp[hdy])]at ho;rw[if_neg (by rw[ho];decide),if_pos ho]at hR;have d1:decide ((d.length:Int)<(zs.length:Int)-1)=false:=by simp;simp at hzd;omega
      cases b5:decide (0<p.check)
      ·have m5:p.check=0:=by simp at b5;omega
       rw[if_pos m5]at hR;simp only[l6,lD,↓hfl,e1,e2,↓g1,↓g2,b2,gy,f1,h4a,go_sem,seval]
       try simp only[b3,gy,f1,h4a,go_sem,seval]
       refine cB ?_;simp only[h4b,hdy,↓hfl,w1,d1,b5,hR,go_sem,seval];exact⟨h4k,rfl,vi,h4v,h4z⟩
      ·have m5:¬p.check=0:=by simp at b5;omega
       rw[if_neg m5]at hR;simp only[l6,lD,↓hfl,e1,e2,↓g1,↓g2,b2,gy,f1,h4a,go_sem,seval]
       try simp only[b3,gy,f1,h4a,go_sem,seval]
       refine cB ?_;simp only[h4b,h4v,hdy,↓hfl,w1,d1,b5,go_sem,seval];refine aBi h55 hkb2 h4z ?_ ?_;have:=IR c2.vi [];have:=hcn2.2.1;have:=hcn2.2.2;simp only[big,List.length_nil]at *;omega;intro r5 H5 o5 k5;have h5v:=(k5 29 (by omega) (by omega)).trans h4v;obtain⟨s1,s2,s3⟩:r5.fits 1 false=true/\r5.one=true/\r5.cells=[r5]:=by obtain⟨k9,o9,_⟩:=o5;exact o9.one
       simp only[h5v,s1,s2,s3,go_sem,seval];refine cB ?_;simp only[hR,go_sem,seval];refine⟨λq h1 h2 h3=>?_,rfl,r5,by rw[aB,if_pos rfl];rfl,?_⟩;rw[aB,if_neg (Ne.symm h2),k5 q (by omega) h3];exact h4k q h1 h2 h3;have hp:eX [] (c2.vi++[p.check])=fC p.check (eX [] c2.vi):=by simp[eX,List.foldl_append]
       simp only[hp];exact o5.mono (λq h1 h2=>by rw[aB,if_neg (by omega)])
  ·rintro d x r e hp hes ⟨v,xs,rfl,hb,h3a,ho,hl,hv3,hk3,hw3,hI⟩;obtain⟨hget,e1,e2,ew⟩:=cY hes hat2;have hdl:d.length<p.at_.es.length:=by rw[hes];simp
   rw[BZ]at hI;have hb0:=hb;simp only[aA.cells,aA.kav,Sl.av]at hb0;obtain⟨n5,c5,keys,hsn⟩:=hw3.snap1;simp only[rJ,pA,hb0,e1,e2,hget,go_sem,seval]
   try rw[<-Lin.avc]
   cases hL:nB env x with
   |none=>
    rw[hL]at hI;have h9:=h949 x n5 c5 env heb hed (hfd x (by rw[hes];simp));rw[hL]at h9;refine fB h9 (eY (Lin.tree_av x) hsn) rfl rfl ?_;have hTv:T = .er 3:=by rw[hT,pG,hK];simp only[hI]
    simp only[pI,hTv,go_sem,seval];exact⟨hk3,by decide,0,rfl⟩
   |some n=>
    rw[hL]at hI;have h9:=h949 x n5 c5 env heb hed (hfd x (by rw[hes];simp));rw[hL]at h9;refine fB h9 (eY (Lin.tree_av x) hsn) rfl rfl ?_;simp only[pI,go_sem,seval];refine m8 (s:=17) (es:=xs.map aH) ho (El.ints _) (xs:=[.int .i64 n]) (by intro z hz;simp at hz;subst hz;exact⟨rfl,rfl,rfl⟩) (by simp only[bU,List.length_singleton];omega) (by decide) ?_;intro v' rd pa ho2 hk2 _;generalize Eff.app hp (.pat rd pa)=Hz at *;have hzo:∀q,q≠kb+17->Hz.get q=hp.get q:=λq h1=>hk2 q h1;have hvz:Rn er (.sl anl (arrs.map Arr.av) acl) c2 Hz:=by obtain⟨vi,z1,z2⟩:=hv3;exact⟨vi,(hzo _ (by omega)).trans z1,z2.mono (λq h1 h2=>hzo q (by omega))⟩
    simp only[ew,go_sem,seval];exact⟨v',xs++[n],rfl,(hzo _ (by omega)).trans hb,(hzo _ (by omega)).trans h3a,by simpa[aH] using ho2,by simp;omega,hvz,λq h1 h2 h3=>(hzo q (by omega)).trans (hk3 q h1 h2 h3),hw3.mono (λq h1 h2 h3=>hzo q (by omega)) (Nat.le_refl _),hI⟩
end
end
section
theorem SG{pg:Pg}{kb s:Nat}{h:Hp}{w:AV}{env:List Val}{nl cl:Bool}{Q:AV->Eff->Prop}{t:Tok Q}(g:jY h kb w env)(hc:(nl||cl)=true)(hl:env.length<=1073741824)
  (q1:env=[]->∀rd,(rd=[]\/∃k,rd=[k])->Q (.sl nl [] cl) (.pat rd []))
  (q2:∀cs rd,aV 2 true (env.map Val.av)=some cs->(rd=[kb+s]\/∃k,rd=[kb+s,k])->Q (.rf (kb+s) (h.next (kb+s)) 0 env.length env.length) (.pat rd [⟨kb+s,h.next (kb+s),.blk cs 2 true false false⟩])) :
  XO pg kb (.app 2 true 24) s h [.sl nl [] cl,w] Q t:=by
 rw[eQ];obtain⟨ds,d1,d2,d3,d4⟩:=cG (El.vals env);have hs:∃rd,(rd=[]\/∃k,rd=[k])/\aO h 2 true w=some (ds,env.length,rd):=by
  rcases g with ⟨n1,c1,rfl⟩|⟨k,e,cs,rfl,h1,h2,h29,h3,h4⟩
  refine⟨[],.inl rfl,?_⟩;simp only[aO,d1,Option.map_some,bU];rw[h3]at d1;cases d1;refine⟨[k],.inr ⟨k,rfl⟩,?_⟩;simp only[aO,h4,List.drop_zero];have hlen:ds.length=env.length*2:=by simpa using d2
  rw[if_pos ⟨trivial,by omega,by rw[<-hlen,List.take_length];exact d3⟩,<-hlen,List.take_length]
 obtain⟨rd,hrd,hs⟩:=hs;simp only[jN,hs];by_cases he:env=[]
 subst he;simp only[i6,List.length_nil,if_true];exact q1 rfl rd hrd;have hn:env.length≠0:=by simpa using he
 simp only[i6,hn,if_false,hc,List.length_nil,Nat.zero_add,hl,decide_true,Bool.true_and,Bool.and_self,aV,List.nil_append,if_true];have h24:decide (24<=65536)=true:=rfl;simp only[h24,Bool.and_self,if_true];refine q2 ds ((kb+s)::rd) d1 ?_;rcases hrd with rfl|⟨k,rfl⟩
 exact .inl rfl;exact .inr ⟨k,rfl⟩
theorem xK{h:Hp}{kb kb' s:Nat}{w a b:AV}{env:List Val}(g:jY h kb' w env)(hle:kb'<=(kb+s+1)*65536)(ha:∃k e o,a = .pt k e o)(hb:b.isAgg=true):eD kb s [a,b,w]=(kb+s+1)*65536:=by
 obtain⟨k1,e1,o1,rfl⟩:=ha;obtain⟨c,rfl⟩:∃c,b = .agg c:=by cases b<;>simp[AV.isAgg]at hb;exact⟨_,rfl⟩
 rcases g with ⟨nl,cl,rfl⟩|⟨k,e,cs,rfl,h1,h2,h29,h3,h4⟩
 rfl;have h5:decide ((kb+s+1)*65536<=k)=false:=by simp;omega
 simp[eD,h5]
section
variable{pg:Pg}
set_option maxRecDepth 100000 in
set_option maxHeartbeats 1000000 in
theorem c952(hf:pg.fs 952=some DS)(h949:∀(l:Lin) nl cl (env:List Val),env.length<=big->kN env->(∀t∈l.ts.es,(lU env t.v.bs).isSome=true)->Ret pg 949 [l.av,.sl nl (env.map Val.av) cl] (pI (nB env l)))
  (h953:∀(er:Nat)(a:AV)(c:Cn)(kb:Nat)(h:Hp),65536<=kb->Rn er a c h->∀(nl cl:Bool)(fn:List aE),fn.length<=big->∀(v:AV)(k:Nat)(xs:List Int),Gr h k v xs->xs.length<=big->cW pg 953 [.pt 29 er 0,.sl nl (fn.map aE.av) cl,v] kb h (RnP er a h kb (lY fn xs c)))
  (arrs:List Arr) (A:AV) (er:Nat) (env:List Val) (c:Cn) (kb:Nat) (h:Hp) (w:AV) (hkb:65536<=kb) (hkb2:kb % 65536=0) (hcn:rT c)
  (hv:Rn er A c h) (hw:jY h kb w env) (heb:env.length<=big) (hed:kN env) (p:aA) (k0 k1:aA) (hks:p.kids=[k0,k1]) (l:Lin) (hat:p.at_.es=[l])
  (hfd:∀t∈l.ts.es,(lU env t.v.bs).isSome=true) (ih0:EvR pg arrs A k0 env) (ih1:∀i:Int,0<=i->i<=1099511627776->EvR pg arrs A k1 (env++[⟨p.name,i⟩])) :
  cW pg 952 [.pt 29 er 0,p.av,w] kb h (RnP er A h kb (IM p (p.kids.map (evU arrs)) env c)):=by
 refine cW.ofX hf ?_;unfold DS;have hk0:p.kids[0]?=some k0:=by rw[hks];rfl
 have hk1:p.kids[1]?=some k1:=by rw[hks];rfl
 have hl0:p.at_.es[0]?=some l:=by rw[hat];rfl
 obtain⟨H,hH⟩:∃H:Hp,H=h.put (kb+1) (h.next (kb+1)) (.blk p.cells 9 true true false):=⟨_,rfl⟩
 have hb1:H.get (kb+1)=some (h.next (kb+1),.blk p.cells 9 true true false):=by rw[hH,aB,if_pos rfl]
 have hoH:∀q,q≠kb+1->H.get q=h.get q:=by intro q hq;rw[hH,aB,if_neg (Ne.symm hq)]
 have hvH:Rn er A c H:=by obtain⟨vi,a1,a2⟩:=hv;exact⟨vi,(hoH _ (by omega)).trans a1,a2.mono (λq h1 h2=>hoH q (by omega))⟩
 have hkH:dH h H kb:=λq h1 h2 h3=>hoH q (by omega);have hwH:jY H kb w env:=hw.mono hkH (Nat.le_refl _);simp only[aA.cells,aA.kav,Sl.av]at hH;obtain⟨T,hT⟩:∃T,T=IM p (p.kids.map (evU arrs)) env c:=⟨_,rfl⟩
 rw[<-hT]
 have hR:T=match evU arrs k0 env c with
  |.er e => .er e
  |.ok n c2=>match nB env l with
   |none => .er 3
   |some m=>nI p.fn.es p.name (evU arrs k1) env m.toNat 0 n c2:=by
  rw[hT];simp only[IM,hks,List.map_cons,List.map_nil,I8,hat];rfl
 simp only[hk0,go_sem,seval];rw[<-hH]
 try rw[<-aA.avc]
 refine eA (.inl rfl) (B:=(kb+5+1)*65536) (jW hwH ⟨_,_,_,rfl⟩ (by rw[aA.av_eq];rfl)) (ih0 er c _ H w (by omega) (by omega) hcn hvH (hwH.mono (dH.refl _ _) (by omega))) ?_;rintro r0 h1 ⟨q1,q2⟩;have hkv1:dH h h1 kb:=hkH.trans q1 (by omega);cases hE:evU arrs k0 env c with
 |er e=>
  rw[hE]at q2 hR;obtain⟨he,m,rfl⟩:=q2;have hne:decide (e=0)=false:=by simp[he]
  simp only[hne,hR,go_sem,seval];exact⟨hkv1,he,0,rfl⟩
 |ok n c2=>
 rw[hE]at q2 hR;obtain⟨rfl,hv1⟩:=q2;have hb2:=(q1 (kb+1) (by omega) (by omega) (by omega)).trans hb1;have hb2':=hb2;simp only[aA.cells,aA.kav,Sl.av]at hb2';have hw1:jY h1 kb w env:=hwH.mono (λq b1 b2 b3=>q1 q (by omega) b2 b3) (Nat.le_refl _);obtain⟨n5,c5,keys,hsn⟩:=hw1.snap1;have hcn2:rT c2:=hcn.bnd (uF arrs k0 env c n c2 hcn.1 hcn.2.2 hE);simp only[hb2',hl0,go_sem,seval]
 try rw[<-Lin.avc]
 have h9:=h949 l n5 c5 env heb hed hfd;cases hL:nB env l with
 |none=>rw[hL]at h9 hR;refine fB h9 (eY (Lin.tree_av l) hsn) rfl rfl ?_;simp only[pI,hR,go_sem,seval];exact⟨hkv1,by decide,0,rfl⟩
 |some M=>
 rw[hL]at h9 hR;refine fB h9 (eY (Lin.tree_av l) hsn) rfl rfl ?_;have hM:M<=1099511627776:=by unfold nB at hL;split at hL;cases hL;split at hL;cases hL;cases hL;omega
 simp only[pI,go_sem,seval]
 refine oM (λa:Nat=>a) (λk e hp=>∃(i acc:Int)(c':Cn),e=GP (.pt 29 er 0) w (.pt (kb+1) (h.next (kb+1)) 0) (.int .i64 acc) (.int .i64 M) (.int .i64 i) /\
  hp.get (kb+1)=some (h.next (kb+1),.blk p.cells 9 true true false)/\dH h hp kb/\jY hp kb w env/\Rn er A c' hp/\rT c'/\0<=i/\i<=1099511627776/\k=(M-i).toNat/\T=nI p.fn.es p.name (evU arrs k1) env k i acc c') M.toNat ?_ ?_
 exact⟨0,n,c2,rfl,hb2,hkv1,hw1,hv1,hcn2,Int.le_refl _,by omega,by simp,hR⟩;rintro k e hp ⟨i,acc,c',rfl,hb,hkp,hwp,hvp,hcn',i0,i1,hk,hT2⟩;have hb0:=hb;simp only[aA.cells,aA.kav,Sl.av]at hb0;cases b1:decide (i<M);have hk0':k=0:=by simp at b1;omega
 subst hk0';have hT3:T = .ok acc c':=hT2;simp only[GO,GP,b1,hT3,go_sem,seval];exact⟨hkp,rfl,hvp⟩;have hiM:i<M:=aF b1;obtain⟨k',rfl⟩:∃k',k=k'+1:=⟨k-1,by omega⟩
 have wi:wr .i64 (i+1)=i+1:=gH (by omega) (by omega);rw[nI]at hT2;simp only[GO,GP,b1,hb0,hk1,go_sem,seval];refine SG hwp rfl (by simp only[big]at heb;omega) ?_ ?_;rintro rfl rd hrd;simp only[hb0,go_sem,seval];refine P8 rfl (by intro z hz;simp at hz;subst hz;exact⟨rfl,rfl,rfl⟩) (by simp) (by simp) (by decide) ?_;intro ds hds;have hval:aV 2 true (([]++[(⟨p.name,i⟩:Val)]).map Val.av)=some ds:=by simpa[Val.av] using hds
 refine Wk ?_;obtain⟨H5,hH5⟩:∃H5:Hp,H5=hp.put (kb+17) (hp.next (kb+17)) (.blk ds 2 true false false):=⟨_,rfl⟩
 rw[<-hH5];have h5o:∀q,q≠kb+13->q≠kb+17->H5.get q=hp.get q:=by intro q z1 z2;rw[hH5];rw[aB,if_neg (by omega)]
 have hw5:jY H5 ((kb+21+1)*65536) (.rf (kb+17) (hp.next (kb+17)) 0 (1) (1)) ([]++[⟨p.name,i⟩]):=.inr ⟨kb+17,hp.next (kb+17),ds,by simp,by omega,by omega,by omega,hval,by rw[hH5];rw[aB,if_pos rfl]⟩;have hv5:Rn er A c' H5:=by obtain⟨vi,z1,z2⟩:=hvp;exact⟨vi,(h5o _ (by omega) (by omega)).trans z1,z2.mono (λq h1 h2=>h5o q (by omega) (by omega))⟩
 have hk5:dH h H5 kb:=λq h1 h2 h3=>(h5o q (by omega) (by omega)).trans (hkp q h1 h2 h3);have hb5:=(h5o (kb+1) (by omega) (by omega)).trans hb;have hwp5:jY H5 kb w []:=hwp.mono (λq h1 h2 h3=>h5o q (by omega) (by omega)) (Nat.le_refl _);refine eA (.inl rfl) (B:=(kb+21+1)*65536) (xK hw5 (Nat.le_refl _) ⟨_,_,_,rfl⟩ (by rw[aA.av_eq];rfl)) (ih1 i i0 (by omega) er c' _ H5 _ (by omega) (by omega) hcn' hv5 hw5) ?_;rintro r6 h6 ⟨q7,q8⟩;have hb6:=(q7 (kb+1) (by omega) (by omega) (by omega)).trans hb5;have hb6':=hb6;simp only[aA.cells,aA.kav,Sl.av]at hb6';have hk6:dH h h6 kb:=hk5.trans q7 (by omega);have hw6:jY h6 kb w []:=hwp5.mono (λq b1 b2 b3=>q7 q (by omega) b2 b3) (Nat.le_refl _);cases hE6:evU arrs k1 ([]++[⟨p.name,i⟩]) c' with
 |er e6=>
  rw[hE6]at q8 hT2;obtain⟨he,m,rfl⟩:=q8;have hne:decide (e6=0)=false:=by simp[he]
  have hT3:T = .er e6:=hT2;refine Wk ?_;refine And.intro (by rcases hrd with rfl|⟨k,rfl⟩<;>simp[bT,bS,R.apart,R.uses,X.tmp,Eff.apart,lP,Nat.testBit]) ?_;simp only[hne,hT3,go_sem,seval];exact⟨hk6,he,0,rfl⟩
 |ok y c6=>
  rw[hE6]at q8 hT2;obtain⟨rfl,hv6⟩:=q8;have hcn6:rT c6:=hcn'.bnd (uF arrs k1 _ c' y c6 hcn'.1 hcn'.2.2 hE6);refine Wk ?_;refine And.intro (by rcases hrd with rfl|⟨k,rfl⟩<;>simp[bT,bS,R.apart,R.uses,X.tmp,Eff.apart,lP,Nat.testBit]) ?_;simp only[hb6',go_sem,seval];refine eA (.inl rfl) (B:=(kb+25+1)*65536) rfl (h953 er A c6 _ h6 (by omega) hv6 p.fn.nl p.fn.cl p.fn.es p.fn.ok _ 0 [acc,y] (.inl ⟨false,true,rfl,rfl⟩) (by simp[big])) ?_;rintro r7 h7 ⟨q9,q10⟩;have hb7:=(q9 (kb+1) (by omega) (by omega) (by omega)).trans hb6;have hk7:dH h h7 kb:=hk6.trans q9 (by omega);have hw7:jY h7 kb w []:=hw6.mono (λq b1 b2 b3=>q9 q (by omega) b2 b3) (Nat.le_refl _);simp only at hT2;cases hC:lY p.fn.es [acc,y] c6 with
  |er e7=>
   rw[hC]at q10 hT2;obtain⟨he,m,rfl⟩:=q10;have hne:decide (e7=0)=false:=by simp[he]
   have hT3:T = .er e7:=hT2;simp only[hne,hT3,go_sem,seval];exact⟨hk7,he,0,rfl⟩
  |ok z c7=>rw[hC]at q10 hT2;obtain⟨rfl,hv7⟩:=q10;simp only[wi,go_sem,seval];exact⟨k',by omega,i+1,z,c7,rfl,hb7,hk7,hw7,hv7,hcn6.bnd (rF hcn6.2.2 hC),by omega,by omega,by omega,hT2⟩
 intro cs rd hcs hrd;have k12:(kb+12=kb)=False:=eq_false (by omega);have k4:(kb=kb+4)=False:=eq_false (by omega);simp only[hb0,k12,go_sem,seval];refine P7 (k1:=kb+13) (es:=env.map Val.av) (by simp) (by rw[aB,if_pos rfl]) hcs (by omega) (El.vals env) (by intro z hz;simp at hz;subst hz;exact⟨rfl,rfl,rfl⟩) (by simp) (by simp only[List.length_singleton];simp only[big]at heb;omega) (by decide) ?_;intro ds hds;have hval:aV 2 true ((env++[(⟨p.name,i⟩:Val)]).map Val.av)=some ds:=by simpa[Val.av] using hds
 simp only[k4,go_sem,seval];obtain⟨H5,hH5⟩:∃H5:Hp,H5=((hp.put (kb+13) (hp.next (kb+13)) (.blk cs 2 true false false)).put (kb+13) (hp.next (kb+13)) .dead).put (kb+17) (hp.next (kb+17)) (.blk ds 2 true false false):=⟨_,rfl⟩
 rw[<-hH5];have h5o:∀q,q≠kb+13->q≠kb+17->H5.get q=hp.get q:=by intro q z1 z2;rw[hH5];rw[aB,if_neg (by omega),aB,if_neg (by omega),aB,if_neg (by omega)]
 have hw5:jY H5 ((kb+21+1)*65536) (.rf (kb+17) (hp.next (kb+17)) 0 (env.length+1) (env.length+1)) (env++[⟨p.name,i⟩]):=.inr ⟨kb+17,hp.next (kb+17),ds,by simp,by omega,by omega,by omega,hval,by rw[hH5];rw[aB,if_pos rfl]⟩;have hv5:Rn er A c' H5:=by obtain⟨vi,z1,z2⟩:=hvp;exact⟨vi,(h5o _ (by omega) (by omega)).trans z1,z2.mono (λq h1 h2=>h5o q (by omega) (by omega))⟩
 have hk5:dH h H5 kb:=λq h1 h2 h3=>(h5o q (by omega) (by omega)).trans (hkp q h1 h2 h3);have hb5:=(h5o (kb+1) (by omega) (by omega)).trans hb;have hwp5:jY H5 kb w env:=hwp.mono (λq h1 h2 h3=>h5o q (by omega) (by omega)) (Nat.le_refl _);refine eA (.inl rfl) (B:=(kb+21+1)*65536) (xK hw5 (Nat.le_refl _) ⟨_,_,_,rfl⟩ (by rw[aA.av_eq];rfl)) (ih1 i i0 (by omega) er c' _ H5 _ (by omega) (by omega) hcn' hv5 hw5) ?_;rintro r6 h6 ⟨q7,q8⟩;have hb6:=(q7 (kb+1) (by omega) (by omega) (by omega)).trans hb5;have hb6':=hb6;simp only[aA.cells,aA.kav,Sl.av]at hb6';have hk6:dH h h6 kb:=hk5.trans q7 (by omega);have hw6:jY h6 kb w env:=hwp5.mono (λq b1 b2 b3=>q7 q (by omega) b2 b3) (Nat.le_refl _);cases hE6:evU arrs k1 (env++[⟨p.name,i⟩]) c' with
 |er e6=>
  rw[hE6]at q8 hT2;obtain⟨he,m,rfl⟩:=q8;have hne:decide (e6=0)=false:=by simp[he]
  have hT3:T = .er e6:=hT2;refine Wk ?_;refine And.intro (by rcases hrd with rfl|⟨k,rfl⟩<;>simp[bT,bS,R.apart,R.uses,X.tmp,Eff.apart,lP,Nat.testBit]) ?_;simp only[hne,hT3,go_sem,seval];exact⟨hk6,he,0,rfl⟩
 |ok y c6=>
  rw[hE6]at q8 hT2;obtain⟨rfl,hv6⟩:=q8;have hcn6:rT c6:=hcn'.bnd (uF arrs k1 _ c' y c6 hcn'.1 hcn'.2.2 hE6);refine Wk ?_;refine And.intro (by rcases hrd with rfl|⟨k,rfl⟩<;>simp[bT,bS,R.apart,R.uses,X.tmp,Eff.apart,lP,Nat.testBit]) ?_;simp only[hb6',go_sem,seval];refine eA (.inl rfl) (B:=(kb+25+1)*65536) rfl (h953 er A c6 _ h6 (by omega) hv6 p.fn.nl p.fn.cl p.fn.es p.fn.ok _ 0 [acc,y] (.inl ⟨false,true,rfl,rfl⟩) (by simp[big])) ?_;rintro r7 h7 ⟨q9,q10⟩;have hb7:=(q9 (kb+1) (by omega) (by omega) (by omega)).trans hb6;have hk7:dH h h7 kb:=hk6.trans q9 (by omega);have hw7:jY h7 kb w env:=hw6.mono (λq b1 b2 b3=>q9 q (by omega) b2 b3) (Nat.le_refl _);simp only at hT2;cases hC:lY p.fn.es [acc,y] c6 with
  |er e7=>
   rw[hC]at q10 hT2;obtain⟨he,m,rfl⟩:=q10;have hne:decide (e7=0)=false:=by simp[he]
   have hT3:T = .er e7:=hT2;simp only[hne,hT3,go_sem,seval];exact⟨hk7,he,0,rfl⟩
  |ok z c7=>rw[hC]at q10 hT2;obtain⟨rfl,hv7⟩:=q10;simp only[wi,go_sem,seval];exact⟨k',by omega,i+1,z,c7,rfl,hb7,hk7,hw7,hv7,hcn6.bnd (rF hcn6.2.2 hC),by omega,by omega,by omega,hT2⟩
end
end
section
section
variable{pg:Pg}
theorem L7{env:List Val}{ls:List Lin}(h:dS ls (env.map (·.v))=true):∀l∈ls,∀t∈l.ts.es,(lU env t.v.bs).isSome=true:=by intro l hl t ht;simp only[dS,eE,aD]at h;have:=(h l hl).2 t ht;simp only[fD,List.any_map,List.any_eq_true,Function.comp,bC]at this;obtain⟨v,hv,he⟩:=this;simp only[lU,Option.isSome_map,List.find?_isSome];exact⟨v,hv,by simp[he]⟩
set_option maxRecDepth 100000 in
set_option maxHeartbeats 2000000 in
theorem c944(hf:pg.fs 944=some KL)(h55:pg.fs 55=some s9)(h950:pg.fs 950=some xC)(h951:pg.fs 951=some DT)(h952:pg.fs 952=some DS)
  (h949:∀(l:Lin) nl cl (env:List Val),env.length<=big->kN env->(∀t∈l.ts.es,(lU env t.v.bs).isSome=true)->Ret pg 949 [l.av,.sl nl (env.map Val.av) cl] (pI (nB env l)))
  (h953:∀(er:Nat)(a:AV)(c:Cn)(kb:Nat)(h:Hp),65536<=kb->Rn er a c h->∀(nl cl:Bool)(fn:List aE),fn.length<=big->∀(v:AV)(k:Nat)(xs:List Int),Gr h k v xs->xs.length<=big->cW pg 953 [.pt 29 er 0,.sl nl (fn.map aE.av) cl,v] kb h (RnP er a h kb (lY fn xs c)))
  (h954:∀op nl cl (xs:List Int),xs.length<=big->Ret pg 954 [.str op,.sl nl (xs.map aH) cl] (lA op xs))
  (arrs:List Arr) (anl acl:Bool) (h957:∀(a:Arr) nl cl ix,Ret pg 957 [a.av,.sl nl (ix.map aH) cl] (atV a ix)) :
  ∀p:aA,p.ok->∀env,env.length+p.sz<=big->W1 arrs p env->EvR pg arrs (.sl anl (arrs.map Arr.av) acl) p env:=by
 refine aA.ind' λp ih hpo env hsz hgood er c kb h w hkb hkb2 hcn hv hw=>?_;obtain⟨hk,hks⟩:=(aA.ok_iff p).1 hpo;obtain⟨hval,hed,hrd⟩:=hgood;have hval':=hval;rw[fI,aD,aD]at hval';obtain⟨⟨hnode,hover⟩,hvk⟩:=hval';have hfound:=L7 hover;have hps:=aA.sz_eq p;have heb:env.length<=big:=by omega
 have hksz:∀q∈p.kids,q.sz+1<=p.sz:=λq hq=>by have:=aA.szL_mem hq;omega
 have hkid:decide (p.op.bs=[114,101,100,117,99,101])=false->∀q∈p.kids,EvR pg arrs (.sl anl (arrs.map Arr.av) acl) q env:=by intro hr q hq;rw[hr]at hvk;have:=hksz q hq;exact ih q hq (hks q hq) env (by omega) ⟨pR hvk hq,hed,λv hv=>hrd v (vA hq hv)⟩
 obtain⟨A,hA⟩:∃A,A=AV.sl anl (arrs.map Arr.av) acl:=⟨_,rfl⟩
 rw[FQ];obtain⟨T,hT⟩:∃T,T=o7 arrs p (p.kids.map (evU arrs)) env c:=⟨_,rfl⟩
 rw[<-hT];refine cW.ofX hf ?_;unfold KL;have n28:(kb=28)=False:=eq_false (by omega);have n28':(29=kb+1)=False:=eq_false (by omega);obtain⟨vi,a1,a2⟩:=hv;rw[<-hA]at ih a1 hkid ⊢;obtain⟨H0,hH0⟩:∃H0:Hp,H0=(h.put (kb+1) (h.next (kb+1)) (.blk p.cells 9 true true false)).put 29 er (pZ A {c with wk:=wr .i64 (c.wk+1)} vi):=⟨_,rfl⟩
 have h0o:∀q,q≠29->q≠kb+1->H0.get q=h.get q:=by intro q h1 h2;rw[hH0,aB,if_neg (Ne.symm h1),aB,if_neg (Ne.symm h2)]
 have hb:H0.get (kb+1)=some (h.next (kb+1),.blk p.cells 9 true true false):=by rw[hH0,aB,if_neg (by omega),aB,if_pos rfl]
 have hv0:Rn er A {c with wk:=wr .i64 (c.wk+1)} H0:=⟨vi,by rw[hH0,aB,if_pos rfl],a2.mono (λq h1 h2=>h0o q (by omega) (by omega))⟩
 have hkp:dH h H0 kb:=λq h1 h2 h3=>h0o q h2 (by omega);have hw0:jY H0 kb w env:=hw.mono hkp (Nat.le_refl _);simp only[pZ,aA.cells,aA.kav,Sl.av]at hH0;have hb':=hb;simp only[aA.cells,aA.kav,Sl.av]at hb';obtain⟨n5,c5,keys,hsn⟩:=hw0.snap1;cases w0:decide (1000000<wr .i64 (c.wk+1))
 case true=>have hR:T = .er 3:=hT.trans (if_pos (aF w0));simp only[a1,pZ,n28,w0,hR,go_sem,seval];rw[<-hH0];exact⟨hkp,by decide,0,rfl⟩
 have w1:=aP w0;have hN:=λx=>(if_neg w1:(if 1000000<wr .i64 (c.wk+1) then Rs.er 3 else x)=x)
 have hcn0:rT {c with wk:=wr .i64 (c.wk+1)}:=by obtain⟨c1,c2,c3⟩:=hcn;have w2:wr .i64 (c.wk+1)=c.wk+1:=gH (by omega) (by omega);rw[w2]at w1 ⊢;exact⟨show 0<=c.wk+1 by omega,show (c.vi.length:Int)<=c.wk+1 by omega,show c.wk+1<=1000000 by omega⟩
 rw[o7,hN]at hT;generalize hc0:({c with wk:=wr .i64 (c.wk+1)}:Cn)=c0 at *;cases b1:decide (p.op.bs=[99,111,110,115,116])
 case true=>rw[if_pos (aF b1)]at hT;simp only[a1,pZ,n28,n28',w0,b1,hT,go_sem,seval];rw[<-hH0];exact⟨hkp,rfl,hv0⟩
 have m1:=aP b1;rw[if_neg m1]at hT;cases b2:decide (p.op.bs=[108,105,110,101,97,114])
 case true=>
  have m2:=aF b2;rw[if_pos m2]at hT;rw[cF,if_neg m1,if_pos m2,aD,bC]at hnode;obtain⟨l,hl⟩:∃l,p.at_.es=[l]:=by
   have:=hnode.2;rcases hp:p.at_.es with _|⟨l,_|⟨y,z⟩⟩
   rw[hp]at this;simp at this;exact⟨l,rfl⟩;rw[hp]at this;simp at this;omega
  have hl0:p.at_.es[0]?=some l:=by rw[hl];rfl
  have h9:=h949 l n5 c5 env heb hed (hfound l (by rw[hl];simp));simp only[a1,pZ,n28,n28',w0,b1,b2,hl0,go_sem,seval];rw[<-hH0];simp only[I8,hl]at hT;cases hL:nB env l with
  |none=>rw[hL]at h9 hT;refine fB h9 (eY (Lin.tree_av l) hsn) rfl rfl ?_;simp only[pI,go_sem,seval];refine aC (c950 h950 0) ?_;simp only[hT,go_sem,seval];exact⟨hkp,by decide,_,rfl⟩
  |some n=>rw[hL]at h9 hT;refine fB h9 (eY (Lin.tree_av l) hsn) rfl rfl ?_;simp only[pI,go_sem,seval];refine aC (c950 h950 n) ?_;simp only[hT,go_sem,seval];exact⟨hkp,rfl,hv0⟩
 have m2:=aP b2;rw[if_neg m2]at hT;cases b3:decide (p.op.bs=[114,101,97,100])
 case true=>
  have m3:=aF b3;rw[if_pos m3]at hT;have hnr:decide (p.op.bs=[114,101,100,117,99,101])=false:=by rw[m3];rfl
  rw[cF,if_neg m1,if_neg m2,if_pos m3,lN]at hnode;simp only[aD,bC]at hnode;obtain⟨⟨⟨⟨_,v0⟩,v1⟩,v2⟩,vk⟩:=hnode;obtain⟨x,hx,hxo⟩:=hrd p.value (by rw[vB,m3];simp);have hkl:p.kids.length=(if p.dyn then 1 else 0)/\p.at_.es.length<=6:=by cases hdy:p.dyn;simp only[hdy,Bool.false_eq_true,if_false,aD,bC]at vk ⊢;omega;simp only[hdy,if_true,aD,bC]at vk ⊢;omega
  subst hA;simp only[a1,pZ,n28,n28',w0,b1,b2,b3,go_sem,seval];rw[<-hH0,<-aA.avc];refine eA (.inl rfl) (B:=(kb+13+1)*65536) (jW hw0 ⟨_,_,_,rfl⟩ (by rw[aA.av_eq];rfl)) (c951 h951 h55 h949 arrs anl acl er env c0 _ H0 w (by omega) (by omega) (by omega) hcn0 hv0 (hw0.mono (dH.refl _ _) (by omega)) heb hed p (hkid hnr) x v0 hx hxo hfound v2 hkl.1 hkl.2 (h957 x)) ?_;rintro r h' ⟨q1,q2⟩;rw[hT];cases hE:pG arrs p (p.kids.map (evU arrs)) env c0 with
  |er e=>rw[hE]at q2;obtain⟨he,m,rfl⟩:=q2;refine Wk ?_;exact⟨hkp.trans q1 (by omega),he,_,rfl⟩
  |ok n c2=>rw[hE]at q2;obtain⟨rfl,q4⟩:=q2;refine Wk ?_;exact⟨hkp.trans q1 (by omega),rfl,q4⟩
 have m3:=aP b3;rw[if_neg m3]at hT;cases b5:decide (p.op.bs=[114,101,100,117,99,101])
 case true=>
  have m5:=aF b5;have m4:¬p.op.bs=[105,102]:=by rw[m5];decide
  rw[if_neg m4,if_pos m5]at hT;rw[cF,if_neg m1,if_neg m2,if_neg m3,if_neg m4,if_pos m5]at hnode;simp only[aD,bC]at hnode;obtain⟨⟨⟨⟨⟨_,vk⟩,va⟩,_⟩,vn⟩,_⟩:=hnode;obtain⟨l,hl⟩:∃l,p.at_.es=[l]:=by
   rcases hp:p.at_.es with _|⟨l,_|⟨y,z⟩⟩
   rw[hp]at va;simp at va;exact⟨l,rfl⟩;rw[hp]at va;simp at va;omega
  obtain⟨k0,k1,hkk⟩:∃k0 k1,p.kids=[k0,k1]:=by
   rcases hp:p.kids with _|⟨k0,_|⟨k1,_|⟨y,z⟩⟩⟩
   rw[hp]at vk;simp at vk;rw[hp]at vk;simp at vk;exact⟨k0,k1,rfl⟩;rw[hp]at vk;simp at vk;omega
  have hno:∀v∈env,¬v.v.bs=p.name.bs:=by
   intro v hv e;have:fD (env.map (·.v)) p.name.bs=true:=by simp only[fD,List.any_map,List.any_eq_true];exact⟨v,hv,by simp[e]⟩
   rw[this]at vn;cases vn
  rw[b5,hkk]at hvk;simp only[cN,Bool.true_and,aD,Bool.and_true]at hvk;have z0:=hksz k0 (by rw[hkk];simp);have z1:=hksz k1 (by rw[hkk];simp);have e0:EvR pg arrs A k0 env:=ih k0 (by rw[hkk];simp) (hks k0 (by rw[hkk];simp)) env (by omega) ⟨by simpa using hvk.1,hed,λv hv=>hrd v (vA (by rw[hkk];simp) hv)⟩;have e1:∀i:Int,0<=i->i<=1099511627776->EvR pg arrs A k1 (env++[⟨p.name,i⟩]):=by intro i _ _;refine ih k1 (by rw[hkk];simp) (hks k1 (by rw[hkk];simp)) _ (by simp;omega) ⟨by simpa using hvk.2,?_,λv hv=>hrd v (vA (by rw[hkk];simp) hv)⟩;simp only[kN,List.map_append,List.map_cons,List.map_nil,List.nodup_append,List.nodup_cons,List.not_mem_nil,not_false_eq_true,List.nodup_nil,and_self,true_and];refine⟨hed,?_⟩;intro a ha b hb;simp only[List.mem_singleton]at hb;subst hb;obtain⟨v,hv,rfl⟩:=List.mem_map.1 ha;exact hno v hv
  simp only[a1,pZ,n28,n28',w0,b1,b2,b3,b5,go_sem,seval];rw[<-hH0,<-aA.avc];refine eA (.inl rfl) (B:=(kb+17+1)*65536) (jW hw0 ⟨_,_,_,rfl⟩ (by rw[aA.av_eq];rfl)) (c952 h952 h949 h953 arrs A er env c0 _ H0 w (by omega) (by omega) hcn0 hv0 (hw0.mono (dH.refl _ _) (by omega)) heb hed p k0 k1 hkk l hl (hfound l (by rw[hl];simp)) e0 e1) ?_;rintro r h' ⟨q1,q2⟩;rw[hT];cases hE:IM p (p.kids.map (evU arrs)) env c0 with
  |er e=>rw[hE]at q2;obtain⟨he,m,rfl⟩:=q2;refine Wk ?_;exact⟨hkp.trans q1 (by omega),he,_,rfl⟩
  |ok n c2=>rw[hE]at q2;obtain⟨rfl,q4⟩:=q2;refine Wk ?_;exact⟨hkp.trans q1 (by omega),rfl,q4⟩
 have m5:=aP b5;cases b4:decide (p.op.bs=[105,102])
 case true=>
  have m4:=aF b4;rw[if_pos m4]at hT;rw[cF,if_neg m1,if_neg m2,if_neg m3,if_pos m4]at hnode;simp only[aD,bC]at hnode;obtain⟨⟨_,vk⟩,va⟩:=hnode;obtain⟨l,hl⟩:∃l,p.at_.es=[l]:=by
   rcases hp:p.at_.es with _|⟨l,_|⟨y,z⟩⟩
   rw[hp]at va;simp at va;exact⟨l,rfl⟩;rw[hp]at va;simp at va;omega
  obtain⟨k0,k1,hkk⟩:∃k0 k1,p.kids=[k0,k1]:=by
   rcases hp:p.kids with _|⟨k0,_|⟨k1,_|⟨y,z⟩⟩⟩
   rw[hp]at vk;simp at vk;rw[hp]at vk;simp at vk;exact⟨k0,k1,rfl⟩;rw[hp]at vk;simp at vk;omega
  have hl0:p.at_.es[0]?=some l:=by rw[hl];rfl
  have hk0:p.kids[0]?=some k0:=by rw[hkk];rfl
  have hk1:p.kids[1]?=some k1:=by rw[hkk];rfl
  have h9:=h949 l n5 c5 env heb hed (hfound l (by rw[hl];simp))
  have hT2:T=match nB env l with|none => .er 3|some n=>if 0<=n then evU arrs k0 env c0 else evU arrs k1 env c0:=by rw[hT];simp only[ifN,I8,hl,hkk,List.map_cons,List.map_nil];rfl
  simp only[a1,pZ,n28,n28',w0,b1,b2,b3,b5,b4,hl0,go_sem,seval];rw[<-hH0];cases hL:nB env l with
  |none=>rw[hL]at h9 hT2;refine fB h9 (eY (Lin.tree_av l) hsn) rfl rfl ?_;simp only[pI,hT2,go_sem,seval];exact⟨hkp,by decide,_,rfl⟩
  |some n=>
   rw[hL]at h9 hT2;refine fB h9 (eY (Lin.tree_av l) hsn) rfl rfl ?_;cases b6:decide (0<=n);have m6:=aP b6;have hT3:T=evU arrs k1 env c0:=hT2.trans (if_neg m6);simp only[pI,b6,hb',hk1,go_sem,seval];refine eA (.inl rfl) (B:=(kb+29+1)*65536) (jW hw0 ⟨_,_,_,rfl⟩ (by rw[aA.av_eq];rfl)) (hkid b5 k1 (by rw[hkk];simp) er c0 _ H0 w (by omega) (by omega) hcn0 hv0 (hw0.mono (dH.refl _ _) (by omega))) ?_;rintro r h' ⟨q1,q2⟩;rw[hT3];cases hE:evU arrs k1 env c0 with
   |er e=>rw[hE]at q2;obtain⟨he,m,rfl⟩:=q2;refine Wk ?_;exact⟨hkp.trans q1 (by omega),he,_,rfl⟩
   |ok z c2=>rw[hE]at q2;obtain⟨rfl,q4⟩:=q2;refine Wk ?_;exact⟨hkp.trans q1 (by omega),rfl,q4⟩
   have m6:=aF b6;have hT3:T=evU arrs k0 env c0:=hT2.trans (if_pos m6);simp only[pI,b6,hb',hk0,go_sem,seval];refine eA (.inl rfl) (B:=(kb+25+1)*65536) (jW hw0 ⟨_,_,_,rfl⟩ (by rw[aA.av_eq];rfl)) (hkid b5 k0 (by rw[hkk];simp) er c0 _ H0 w (by omega) (by omega) hcn0 hv0 (hw0.mono (dH.refl _ _) (by omega))) ?_;rintro r h' ⟨q1,q2⟩;rw[hT3];cases hE:evU arrs k0 env c0 with
   |er e=>rw[hE]at q2;obtain⟨he,m,rfl⟩:=q2;refine Wk ?_;exact⟨hkp.trans q1 (by omega),he,_,rfl⟩
   |ok z c2=>rw[hE]at q2;obtain⟨rfl,q4⟩:=q2;refine Wk ?_;exact⟨hkp.trans q1 (by omega),rfl,q4⟩
 have m4:=aP b4;rw[if_neg m4,if_neg m5]at hT;simp only[a1,pZ,n28,n28',w0,b1,b2,b3,b5,b4,go_sem,seval];rw[<-hH0]
 refine aN p.kids (λd r e hp=>∃v xs c',e=yG (.pt 29 er 0) w (.pt (kb+1) (h.next (kb+1)) 0) v (.int .i64 d.length) /\
  hp.get (kb+1)=some (h.next (kb+1),.blk p.cells 9 true true false)/\Gr hp (kb+37) v xs/\xs.length=d.length/\rT c'/\Rn er A c' hp/\dH h hp kb/\jY hp kb w env /\
  jK (p.kids.map (evU arrs)) env [] c0=jK (r.map (evU arrs)) env xs c') ?_ ?_ ?_
 exact⟨_,[],c0,rfl,hb,.inl ⟨true,true,rfl,rfl⟩,rfl,hcn0,hv0,hkp,hw0,rfl⟩;rintro e hp ⟨v,xs,c',rfl,hbp,hg,hl,hcn',hvp,hkpp,hwp,hI⟩;have hI:jK (p.kids.map (evU arrs)) env [] c0 = .ok xs c':=hI;have hxl:xs.length<=big:=by omega
 have hb0:=hbp;simp only[aA.cells,aA.kav,Sl.av]at hb0;rw[D9,hI]at hT;simp only at hT;cases b6:decide (p.op.bs=[99,111,100,101])
 case true=>
  rw[if_pos (aF b6)]at hT;simp only[yF,yG,bH,hb0,b6,go_sem,seval];refine eA (.inl rfl) (B:=(kb+41+1)*65536) (R2 hg (by omega)) (h953 er A c' _ hp (by omega) hvp p.fn.nl p.fn.cl p.fn.es p.fn.ok v _ xs hg hxl) ?_;rintro r h' ⟨q1,q2⟩;rw[hT];cases hE:lY p.fn.es xs c' with
  |er e=>rw[hE]at q2;obtain⟨he,m,rfl⟩:=q2;refine Wk ?_;exact⟨hkpp.trans q1 (by omega),he,_,rfl⟩
  |ok n c2=>rw[hE]at q2;obtain⟨rfl,q4⟩:=q2;refine Wk ?_;exact⟨hkpp.trans q1 (by omega),rfl,q4⟩
 rw[if_neg (aP b6)]at hT;obtain⟨n3,c3,keys3,hsn3,_⟩:=hg.snap1;simp only[yF,yG,bH,hb0,b6,go_sem,seval];refine fB (h954 p.op.bs n3 c3 xs hxl) (eY rfl hsn3) rfl rfl ?_;simp only[lA,go_sem,seval];cases b7:lB p.op.bs xs
 case false=>rw[b7,if_neg (by decide)]at hT;simp only[hT,go_sem,seval];exact⟨hkpp,by decide,0,rfl⟩
 rw[b7,if_pos rfl]at hT;obtain⟨vi5,z1,z2⟩:=hvp;simp only[z1,pZ,hT,go_sem,seval];refine⟨λq h1 h2 h3=>?_,rfl,vi5,by rw[aB,if_pos rfl];rfl,z2.mono (λq h1 h2=>by rw[aB,if_neg (by omega)])⟩;rw[aB,if_neg (Ne.symm h2)];exact hkpp q h1 h2 h3
 ·rintro d x r e hp hes ⟨v,xs,c',rfl,hbp,hg,hl,hcn',hvp,hkpp,hwp,hI⟩;obtain⟨hget,e1,e2,ew⟩:=cY hes hk;have hxm:x∈p.kids:=by rw[hes];simp
  have hdl:d.length<p.kids.length:=by rw[hes];simp
  have hb0:=hbp;simp only[aA.cells,aA.kav,Sl.av]at hb0;rw[List.map_cons,jK]at hI;simp only[yF,yG,hb0,e1,e2,hget,go_sem,seval]
  try rw[<-aA.avc]
  refine eA (.inl rfl) (B:=(kb+33+1)*65536) (jW hwp ⟨_,_,_,rfl⟩ (by rw[aA.av_eq];rfl)) (hkid b5 x hxm er c' _ hp w (by omega) (by omega) hcn' hvp (hwp.mono (dH.refl _ _) (by omega))) ?_;rintro r' h' ⟨q1,q2⟩;have hk':dH h h' kb:=hkpp.trans q1 (by omega);cases hE:evU arrs x env c' with
  |er e=>
   rw[hE]at q2 hI;obtain⟨he,m,rfl⟩:=q2;have hne:decide (e=0)=false:=by simp[he]
   rw[D9,hI]at hT;have hT3:T = .er e:=hT;simp only[hne,hT3,go_sem,seval];exact⟨hk',he,_,rfl⟩
  |ok n c2=>
   rw[hE]at q2 hI;obtain⟨rfl,q4⟩:=q2;have hg':Gr h' (kb+37) v xs:=hg.mono (q1 _ (by omega) (by omega) (by omega));refine Wk ?_;refine BN (s:=37) (k1:=kb+37) (es:=xs) hg' (by simp only[big]at hk;omega) (by decide) ?_;intro v' rd pa ho' hk2;generalize Eff.app h' (.pat rd pa)=H2 at *;have h2o:∀q,q≠kb+37->H2.get q=h'.get q:=λq z=>hk2 q z z;have hv2:Rn er A c2 H2:=by obtain⟨vi5,z1,z2⟩:=q4;exact⟨vi5,(h2o _ (by omega)).trans z1,z2.mono (λq h1 h2=>h2o q (by omega))⟩
   simp only[ew,go_sem,seval]
   exact⟨v',_,c2,rfl,(h2o _ (by omega)).trans ((q1 _ (by omega) (by omega) (by omega)).trans hbp),ho',by simp;omega,hcn'.bnd (uF arrs x env c' _ c2 hcn'.1 hcn'.2.2 hE),hv2,
    λq h1 h2 h3=>(h2o q (by omega)).trans (hk' q h1 h2 h3),(hwp.mono (λq b1 b2 b3=>q1 q (by omega) b2 b3) (Nat.le_refl _)).mono (λq h1 h2 h3=>h2o q (by omega)) (Nat.le_refl _),hI⟩
end
end
section
section
variable{pg:Pg}{kb:Nat}
def RY(pg:Pg)(k e:Nat)(args:List AV)(h:Hp)(Q:AV->Hp->Prop):Prop:=∃n v h',(aZ pg n).yl k e args h=some (v,h')/\Q v h'
theorem RY.of{k e b:Nat}{env:List AV}{ps:List Nat}{ca cb:C}{args:List AV}{h:Hp}{Q:AV->Hp->Prop}(hg:h.get k=some (e,.lp 0 b env ps ca cb))(hl:ps.length=args.length)
  (hw:XX pg b ca ⟨zC env ps args,h⟩ (λex st1=>ex = .nor/\st1.hp.get k=some (e,.lp 0 b env ps ca cb)/\XX pg b cb ⟨st1.env,st1.hp.put k e (.lp 1 b env ps ca cb)⟩ (λx st2=>st2.hp.get k=some (e,.lp 1 b env ps ca cb)/\Q (.bool (x == .nor)) (st2.hp.put k e (.lp x.code b env ps ca cb))) ⟨⟩) ⟨⟩):RY pg k e args h Q:=by
 obtain⟨n,ex,st1,h1,rfl,h2,m,x,st2,h3,h4,h5⟩:=hw;refine⟨max n m+1,_,_,?_,h5⟩;have e1:=nL (Nat.le_max_left n m) h1;have e2:=nL (Nat.le_max_right n m) h3;simp only[aZ,pY,hg,hl,and_self,if_true,e1,h2,e2,h4]
end
end
section
def chg(h h':Hp):Hp:=h'.filter λx => !qK (h.get x.k) (some (x.e,x.o))
theorem DE:∀l:List (AV×AV),JO l l=true
 |[]=>rfl
 |x::r=>by simp[JO,lK,DE r]
theorem AU(o:Option (Nat×Ob)):qK o o=true:=by
 cases o with
 |none=>rfl
 |some p=>obtain⟨e,o⟩:=p;cases o<;>simp[qK,UU,kZ,DE]
theorem P2{p:Ent->Bool}:∀{h:Hp}{k e:Nat}{o:Ob},h.all p=true->p ⟨k,e,o⟩=true->(h.put k e o).all p=true
 |[],_,_,_,_,hp=>by simp[Hp.put,hp]
 |x::r,k,e,o,h,hp=>by simp only[List.all_cons,aD]at h;rw[Hp.put];split;simp[h.1,h.2,hp];split;simp[h.2,hp];simp only[List.all_cons,aD];exact⟨h.1,P2 h.2 hp⟩
def bW:Hp->Bool
 |[]=>true
 |x::r=>(r.all λy=>decide (x.k<y.k))&&bW r
theorem aR:∀{h:Hp}{k e:Nat}{o:Ob},bW h=true->bW (h.put k e o)=true
 |[],_,_,_,_=>by simp[Hp.put,bW]
 |x::r,k,e,o,h=>by simp only[bW,aD]at h;rw[Hp.put];split;rename_i hk;simp only[bW,List.all_cons,aD,bC,h.1,h.2,and_true,hk,true_and];rw[eE];intro y hy;have:=eE.1 h.1 y hy;simp only[bC]at this ⊢;omega;rename_i hk;split;rename_i he;subst he;simp only[bW,h.2,Bool.and_true];exact h.1;rename_i he;simp only[bW,aD];exact⟨P2 h.1 (by simp;omega),aR h.2⟩
theorem eU:∀{pa:List Ent}{h:Hp},bW h=true->bW (aJ h pa)=true
 |[],_,h=>h
 |x::r,_,h=>eU (pa:=r) (aR h)
theorem BJ:∀{h:Hp},bW h=true->gN h=true
 |[],_=>rfl
 |x::r,h=>by simp only[bW,aD]at h;simp only[gN,aD];refine⟨?_,BJ h.2⟩;rw[eE];intro y hy;have:=eE.1 h.1 y hy;simp only[bC]at this;simp;omega
theorem oT{p:Ent->Bool}:∀{h:Hp},gN h=true->gN (h.filter p)=true
 |[],_=>rfl
 |x::r,h=>by simp only[gN,aD]at h;rw[List.filter_cons];split;simp only[gN,aD];refine⟨?_,oT h.2⟩;rw[eE];intro y hy;exact eE.1 h.1 y (List.mem_filter.1 hy).1;exact oT h.2
theorem JG{h:Hp}{k:Nat}(hn:∀x∈h,x.k≠k):h.get k=none:=by
 cases hq:h.get k with
 |none=>rfl
 |some p=>obtain⟨x,hx,hk⟩:=rA hq;exact absurd hk (hn x hx)
theorem AD{p:Ent->Bool}:∀{h:Hp}(k:Nat),gN h=true->Hp.get (h.filter p) k=match h.get k with|some (e,o)=>if p ⟨k,e,o⟩ then some (e,o) else none|none=>none
 |[],_,_=>rfl
 |x::r,k,hn=>by
  simp only[gN,aD]at hn;have ih:=AD (p:=p) (h:=r) k hn.2;rw[List.filter_cons];by_cases hk:x.k=k;subst hk
  have hr:∀y∈r,y.k≠x.k:=λy hy=>by have:=eE.1 hn.1 y hy;simpa using this
  have hx:p ⟨x.k,x.e,x.o⟩=p x:=rfl;cases hp:p x;simp only[Hp.get,if_true,hx,hp];exact JG (λy hy=>hr y (List.mem_filter.1 hy).1);simp[Hp.get,hx,hp];cases hp:p x;simp only[Hp.get,hk,if_false];exact ih;simp only[if_true,Hp.get,hk,if_false];exact ih
theorem PR{h h':Hp}(hn:gN h'=true)(hk:∀q,h.get q≠none->h'.get q≠none)(q:Nat):(aJ h (chg h h')).get q=h'.get q:=by
 unfold chg;rw[f9 q (oT hn),AD q hn];cases hq:h'.get q with
 |none=>
  simp only;cases hh:h.get q with
  |none=>rfl
  |some p=>exact absurd hq (hk q (by rw[hh];simp))
 |some p=>obtain⟨e,o⟩:=p;simp only;cases hc:qK (h.get q) (some (e,o));simp;simp[w6 hc]
theorem YP{h h':Hp}(hn:gN h'=true){q:Nat}(he:h'.get q=h.get q):q ∉ (chg h h').map (·.k):=by
 intro hm;obtain⟨x,hx,rfl⟩:=List.mem_map.1 hm;have hx':=List.mem_filter.1 hx;have hg:h'.get x.k=some (x.e,x.o):=by
  obtain⟨hx1,_⟩:=hx';clear hx hm he
  induction h' with
  |nil=>cases hx1
  |cons y r ih=>
   simp only[gN,aD]at hn;rcases List.mem_cons.1 hx1 with rfl|hx1;simp[Hp.get];have:¬x.k=y.k:=by have:=eE.1 hn.1 x hx1;simpa using this
   have h2:¬y.k=x.k:=λe=>this e.symm;rw[Hp.get,if_neg h2];exact ih hn.2 hx1
 rw[<-he,hg,AU]at hx';simp at hx'
section
variable{pg:Pg}{kb:Nat}
end
end
end Go.Tev
