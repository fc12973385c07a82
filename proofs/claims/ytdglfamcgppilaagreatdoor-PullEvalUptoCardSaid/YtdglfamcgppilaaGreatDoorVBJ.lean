import Derived.Test.YtdglfamcgppilaaGreatDoorVBI
import Derived.Test.YtdglfamcgppilaaGreatDoorVBH
import Derived.Test.YtdglfamcgppilaaGreatDoorVAR
import Derived.Test.YtdglfamcgppilaaGreatDoorVBF
set_option linter.all false
namespace Go.Tev
section
section
variable{pg:Pg}{kb:Nat}
def Src(h:Hp)(esz:Nat)(ag:Bool)(w:AV)(xs:List AV):Prop:=∃ds rd,aR esz ag xs=some ds/\aL h esz ag w=some (ds,xs.length,rd)
theorem Src.sl{h:Hp}{esz:Nat}{ag nl cl:Bool}{xs:List AV}(hx:∀x∈xs,El esz ag x):Src h esz ag (.sl nl xs cl) xs:=by obtain⟨ds,d1,d2,d3,_⟩:=bT hx;exact⟨ds,[],d1,by simp[aL,d1]⟩
theorem Own.src{h:Hp}{k2 esz:Nat}{ag:Bool}{w:AV}{xs:List AV}(o2:Own h k2 esz ag w xs)(hx:∀x∈xs,El esz ag x):Src h esz ag w xs:=by
 rcases o2 with ⟨rfl,nl',cl',rfl,hc⟩|⟨e,cs,rfl,hg,hu⟩
 exact Src.sl hx;obtain⟨ds,d1,d2,d3,_⟩:=bT hx;rw[hu]at d1;cases d1;refine⟨cs,[k2],hu,?_⟩;simp only[aL,hg,List.drop_zero];rw[if_pos ⟨trivial,by omega,by rw[<-d2,List.take_length];exact d3⟩,<-d2,List.take_length]
theorem X4{esz bytes s k1:Nat}{ag:Bool}{h:Hp}{v w:AV}{es xs:List AV}{Q:AV->Eff->Prop}{t:Tok Q}(o:Own h k1 esz ag v es)(o2:Src h esz ag w xs)(he:∀x∈es,El esz ag x)
  (hl:es.length+xs.length<=1073741824) (hb:bytes<=65536)
  (q:∀v' k' rd pa,(k'=k1\/k'=kb+s)->Own (Eff.app h (.pat rd pa)) k' esz ag v' (es++xs)->(∀k,k≠kb+s->k≠k1->(Eff.app h (.pat rd pa)).get k=h.get k)->Q v' (.pat rd pa)) :
  XO pg kb (.app esz ag bytes) s h [v,w] Q t:=by
 rw[eT];obtain⟨ds,rd,d1,hs⟩:=o2;simp only[i6,hs];by_cases hxs:xs=[]
 subst hxs;cases d1;rcases o with ⟨rfl,nl',cl',rfl,hc⟩|⟨e,cs,rfl,hg,hu⟩
 simp only[gF,List.length_nil,if_true];exact q _ k1 _ _ (.inl rfl) (.inl ⟨rfl,nl',cl',rfl,hc⟩) (λ_ _ _=>rfl);obtain⟨cs',c1,c2,_,_⟩:=bT he;rw[hu]at c1;cases c1;simp only[gF,hg,List.length_nil,if_true,true_and,Nat.zero_add];rw[if_pos (by omega)];exact q _ k1 _ _ (.inl rfl) (.inr ⟨e,cs,by simp,by simpa[Eff.app,bC] using hg,by simpa using hu⟩) (λ_ _ _=>rfl);have hn:xs.length≠0:=by simpa using hxs
 rcases o with ⟨rfl,nl',cl',rfl,hc⟩|⟨e,cs,rfl,hg,hu⟩
 simp only[gF,hn,if_false,hc,List.length_nil,Nat.zero_add,Bool.true_and];have hlx:xs.length<=1073741824:=by simpa using hl
 simp only[hlx,hb,decide_true,Bool.and_self,if_true,aR,List.nil_append];refine q _ (kb+s) _ _ (.inr rfl) (.inr ⟨_,ds,rfl,?_,by simpa using d1⟩) ?_;rw[eI,aB,if_pos rfl];intro k hk _;rw[eI,aB,if_neg (Ne.symm hk)];obtain⟨cs',c1,c2,_,_⟩:=bT he;rw[hu]at c1;cases c1;have h1:¬(es.length+xs.length<=es.length):=by omega
 by_cases hk1:k1=kb+s;subst hk1;simp only[gF,hg,hn,if_false,true_and,Nat.zero_add];rw[if_pos (by omega)];simp only[h1,if_false,hl,hb,decide_true,Bool.true_and,beq_self_eq_true,Bool.not_true,Bool.and_false,Bool.false_eq_true,Bool.not_false,if_true];refine q _ (kb+s) _ _ (.inr rfl) (.inr ⟨e+1,cs++ds,by simp,?_,eX hu d1⟩) ?_;rw[eI,aB,if_pos rfl];simp[<-c2];intro k hk _;rw[eI,aB,if_neg (Ne.symm hk)];have h2:(k1==kb+s)=false:=by simpa using hk1
 simp only[gF,hg,hn,if_false,true_and,Nat.zero_add];rw[if_pos (by omega)];simp only[h1,if_false,hl,hb,decide_true,Bool.true_and,h2,Bool.not_false,if_true,Bool.false_eq_true];refine q _ (kb+s) _ _ (.inr rfl) (.inr ⟨h.next (kb+s),cs++ds,by simp,?_,eX hu d1⟩) ?_;rw[lL,aB,if_pos rfl];simp[<-c2];intro k hk hk2;rw[lL,aB,if_neg (Ne.symm hk),aB,if_neg (Ne.symm hk2)]
theorem YB{esz bytes s k1 e n:Nat}{ag:Bool}{h:Hp}{cs:List AV}{es xs:List AV}{nl cl:Bool}{Q:AV->Eff->Prop}{t:Tok Q}(hnl:n=es.length)(hg:h.get k1=some (e,.blk cs esz ag false false))(hu:aR esz ag es=some cs)(hk1:k1≠kb+s)
  (he:∀x∈es,El esz ag x) (hx:∀x∈xs,El esz ag x) (hn:xs≠[]) (hl:n+xs.length<=1073741824) (hb:bytes<=65536)
  (q:∀ds,aR esz ag (es++xs)=some ds->Q (.rf (kb+s) (h.next (kb+s)) 0 (n+xs.length) (n+xs.length)) (.pat [kb+s,k1] [⟨k1,e,.dead⟩,⟨kb+s,h.next (kb+s),.blk ds esz ag false false⟩])) :
  XO pg kb (.app esz ag bytes) s h [.rf k1 e 0 n n,.sl nl xs cl] Q t:=by
 subst hnl;rw[eT];obtain⟨ds,d1,d2,d3,_⟩:=bT hx;obtain⟨cs',c1,c2,_,_⟩:=bT he;rw[hu]at c1;cases c1;have hn':xs.length≠0:=by simpa using hn
 have h1:¬(es.length+xs.length<=es.length):=by omega
 have h2:(k1==kb+s)=false:=by simpa using hk1
 have q':=q (cs++ds) (eX hu d1);simp only[i6,aL,d1,Option.map_some,gF,hg,hn',if_false,true_and,Nat.zero_add];rw[if_pos (by omega)];simp only[h1,if_false,hl,hb,decide_true,Bool.true_and,h2,Bool.not_false,if_true,Bool.false_eq_true,List.drop_zero,<-c2,List.take_length];exact q'
theorem YC{esz bytes s:Nat}{ag:Bool}{h:Hp}{xs:List AV}{nl cl nl' cl':Bool}{Q:AV->Eff->Prop}{t:Tok Q}(hc:(nl||cl)=true)(hx:∀x∈xs,El esz ag x)(hn:xs≠[])(hl:xs.length<=1073741824)(hb:bytes<=65536)
  (q:∀ds,aR esz ag xs=some ds->Q (.rf (kb+s) (h.next (kb+s)) 0 xs.length xs.length) (.pat [kb+s] [⟨kb+s,h.next (kb+s),.blk ds esz ag false false⟩])):XO pg kb (.app esz ag bytes) s h [.sl nl [] cl,.sl nl' xs cl'] Q t:=by
 rw[eT];obtain⟨ds,d1,d2,d3,_⟩:=bT hx;have hn':xs.length≠0:=by simpa using hn
 simp only[i6,aL,d1,Option.map_some,gF,hn',if_false,hc,List.length_nil,Nat.zero_add,Bool.true_and,hl,hb,decide_true,Bool.and_self,if_true,aR,List.nil_append];exact q ds d1
end
end
section
theorem Own.gr{h:Hp}{k:Nat}{v:AV}{xs:List Int}(o:Own h k 1 false v (xs.map aE)):Gr h k v xs:=by
 rcases o with ⟨h1,nl,cl,rfl,hc⟩|⟨e,cs,rfl,hg,hu⟩
 have:xs=[]:=by simpa using h1
 subst this;exact .inl ⟨nl,cl,rfl,hc⟩;rw[cM]at hu;cases hu;exact .inr ⟨e,by simp,hg⟩
theorem Gr.one{h:Hp}{k:Nat}{v:AV}{xs:List Int}(g:Gr h k v xs):v.fits 1 false=true/\v.one=true/\v.cells=[v]:=by rcases g with ⟨nl,cl,rfl,_⟩|⟨e,rfl,hg⟩<;>exact⟨rfl,rfl,rfl⟩
theorem Gr.src{h:Hp}{k:Nat}{v:AV}{xs:List Int}(g:Gr h k v xs):Src h 1 false v (xs.map aE):=by
 rcases g with ⟨nl,cl,rfl,_⟩|⟨e,rfl,hg⟩
 exact Src.sl (El.ints xs);refine⟨xs.map aE,[k],cM xs,?_⟩;simp only[aL,hg,List.drop_zero];have hal:∀l:List Int,bE (l.map aE)=true:=by
  intro l
  induction l with
  |nil=>rfl
  |cons x r ih=>simp[bE,aE,AV.one]at ih ⊢;exact ih
 rw[if_pos];simp[List.take_of_length_le];refine⟨trivial,by simp,?_⟩;rw[List.take_of_length_le (by simp)];exact hal xs
section
variable{pg:Pg}
theorem aFi{kb bytes s k1:Nat}{h:Hp}{v:AV}{es:List Int}{x:Int}{nl cl:Bool}{Q:AV->Eff->Prop}{t:Tok Q}(o:Gr h k1 v es)(hl:es.length+1<=1073741824)(hb:bytes<=65536)
  (q:∀v' rd pa,Gr (Eff.app h (.pat rd pa)) (kb+s) v' (es++[x])->(∃e,v' = .rf (kb+s) e 0 (es++[x]).length (es++[x]).length)->(∀k,k≠kb+s->k≠k1->(Eff.app h (.pat rd pa)).get k=h.get k) ->
   ((∃e ob,rd=[kb+s]/\pa=[⟨kb+s,e,ob⟩])\/(∃e1 o1 e ob,rd=[kb+s,k1]/\pa=[⟨k1,e1,o1⟩,⟨kb+s,e,ob⟩]))->Q v' (.pat rd pa)) :
  XO pg kb (.app 1 false bytes) s h [v,.sl nl [.int .i64 x] cl] Q t:=by
 rw[eT];have hsrc:aL h 1 false (.sl nl [.int .i64 x] cl)=some ([.int .i64 x],1,[]):=rfl;simp only[i6,hsrc];have hm:es.map aE++[AV.int .i64 x]=(es++[x]).map aE:=by simp[aE]
 rcases o with ⟨nl',cl',rfl,hc⟩|⟨e,rfl,hg⟩
 simp only[gF,Nat.one_ne_zero,if_false,hc,bD,hl,hb,decide_true,Bool.and_self,if_true,cM];refine q _ _ _ (.inr ⟨h.next (kb+s),by simp,?_⟩) ⟨h.next (kb+s),by simp⟩ ?_ (.inl ⟨_,_,rfl,rfl⟩);rw[eI,aB,if_pos rfl,hm];intro k hk _;rw[eI,aB,if_neg (Ne.symm hk)];have h1:¬(es.length+1<=es.length):=by omega
 have ht:List.take es.length (es.map aE)=es.map aE:=List.take_of_length_le (by simp);by_cases hk1:k1=kb+s;subst hk1;simp only[gF,hg,Nat.one_ne_zero,if_false,true_and,Nat.zero_add,Nat.mul_one,bD,Nat.le_refl,if_true,h1,hl,hb,decide_true,Bool.true_and,beq_self_eq_true,Bool.not_true,Bool.and_false,Bool.false_eq_true,Bool.not_false,List.drop_zero,ht,hm];refine q _ _ _ (.inr ⟨e+1,by simp,?_⟩) ⟨e+1,by simp⟩ ?_ (.inl ⟨_,_,rfl,rfl⟩);rw[eI,aB,if_pos rfl];intro k hk _;rw[eI,aB,if_neg (Ne.symm hk)];have h2:(k1==kb+s)=false:=by simpa using hk1
 simp only[gF,hg,Nat.one_ne_zero,if_false,true_and,Nat.zero_add,Nat.mul_one,bD,Nat.le_refl,if_true,h1,hl,hb,decide_true,Bool.true_and,h2,Bool.not_false,Bool.false_eq_true,List.drop_zero,ht,hm];refine q _ _ _ (.inr ⟨h.next (kb+s),by simp,?_⟩) ⟨h.next (kb+s),by simp⟩ ?_ (.inr ⟨_,_,_,_,rfl,rfl⟩);rw[lL,aB,if_pos rfl];intro k hk hk2;rw[lL,aB,if_neg (Ne.symm hk),aB,if_neg (Ne.symm hk2)]
set_option maxRecDepth 100000 in
set_option maxHeartbeats 1000000 in
theorem c340(hf:pg.fs 340=some BV)(h337:pg.fs 337=some qP)(h339:pg.fs 339=some vH)(h342:pg.fs 342=some yX)(arrs:List Arr)(anl acl:Bool)(ev em:Nat)(env:List Val)(c:Cn)(kb:Nat)(h:Hp)(hkb:65536<=kb)(hkb2:kb % 65536=0)
  (hv:Ev ev em (.sl anl (arrs.map Arr.av) acl) env c 0 h) (p:aA) (hk:p.kids.length<=big) (ih:∀q∈p.kids,EvC pg arrs (.sl anl (arrs.map Arr.av) acl) q env) (a:Arr) (ha0:0<=p.value) (ha:arrs[p.value.toNat]?=some a) (hka:p.kids.length<=1) (hat:p.at_.es.length<=6)
  (hcn:lM c) (h384:∀nl cl ix,Ret pg 384 [a.av,.sl nl (ix.map aE) cl] (atV a ix)) :
  cL pg 340 [.pt 17 ev 0,p.av] kb h (EvP ev em (.sl anl (arrs.map Arr.av) acl) env h kb (mI arrs p (p.kids.map (evU arrs)) env c)):=by
 obtain⟨A,hA⟩:∃A,A=AV.sl anl (arrs.map Arr.av) acl:=⟨_,rfl⟩
 rw[<-hA]at hv ih ⊢;refine cL.ofX hf ?_;unfold BV;have n1:(kb=16)=False:=eq_false (by omega);refine Wk ?_;rw[<-aA.avc];generalize hH:(h.put (kb+1) _ _:Hp)=H;have hb1:H.get (kb+1)=some (h.next (kb+1),.blk p.cells 9 true true false):=by rw[<-hH,aB,if_pos rfl];rfl
 have hvH:Ev ev em A env c 0 H:=by rw[<-hH];refine hv.mono ?_ ?_ ?_;rw[aB,if_neg (by omega)];rw[aB,if_neg (by omega)];intro q h1 h2;rw[aB,if_neg (by omega)]
 have hkH:cT h H kb:=by rw[<-hH];intro q h1 h2 h3 h4;rw[aB,if_neg (by omega)]
 clear hH;refine aN (.inl rfl) (B:=(kb+5+1)*65536) (by rw[aA.av_eq p];rfl) (c342 h342 arrs ev em A env c _ H (by omega) (by omega) hcn hvH p hk ih) ?_;rintro last h1 ⟨q1,q2⟩;have hb2:h1.get (kb+1)=some (h.next (kb+1),.blk p.cells 9 true true false):=(q1 _ (by omega) (by omega) (by omega) (by omega)).trans hb1;have hk1:cT h h1 kb:=hkH.trans q1 (by omega);unfold mI;cases hK:hZ (p.kids.map (evU arrs)) env [] c with
 |er e=>
  rw[hK]at q2;obtain⟨he,env',c',q4⟩:=q2;have q4':=q4;obtain⟨vi,bs,ck,a1,a2,a3⟩:=q4;have hne:decide (e=0)=false:=by simp[he]
  simp only[a1,fD,hne,go_sem,seval];exact⟨hk1,⟨0,rfl⟩,he,env',c',q4'⟩
 |ok ys c2=>
 rw[hK]at q2;obtain⟨hgl,hv1⟩:=q2;have hv1':=hv1;obtain⟨vi,bs,ck,a1,a2,a3⟩:=hv1;have hyl:ys.length<=1:=by have:=tK hK;simp at this;omega
 simp only[a1,fD,hb2,aA.cells,go_sem,seval];clear a1 a2 a3 vi bs ck;have hat2:=p.at_.ok
 refine aM p.at_.es (λd r e hp=>∃v xs,e=EX (.pt 17 ev 0) (.pt (kb+1) (h.next (kb+1)) 0) last v (.sl p.at_.nl (p.at_.es.map Lin.av) p.at_.cl) (.int .i64 p.at_.es.length) (.int .i64 d.length) /\
  hp.get (kb+1)=some (h.next (kb+1),.blk p.cells 9 true true false)/\Gr hp ((kb+5+1)*65536+13) last ys/\Own hp (kb+17) 1 false v (xs.map aE)/\xs.length=d.length/\Ev ev em A env c2 0 hp/\cT h hp kb/\rX env p.at_.es []=rX env r xs) ?_ ?_ ?_
 exact⟨_,[],rfl,hb2,hgl,Own.nil _ _ _ _ _ _ rfl,rfl,hv1',hk1,rfl⟩
 ·rintro e hp ⟨v,xs,rfl,hb,hgl,ho,hl,hv,hkp,hI⟩;have hI:rX env p.at_.es []=some xs:=hI;rw[hI];simp only[EW,EX,aY,go_sem,seval];refine X4 (s:=21) (k1:=kb+17) (es:=xs.map aE) (xs:=ys.map aE) ho hgl.src (El.ints _) (by simp only[bD];omega) (by decide) ?_;intro v' k' rd pa hk' ho' hoth;generalize Eff.app hp (.pat rd pa)=H2 at *;have hzs:xs.map aE++ys.map aE=(xs++ys).map aE:=by simp
  rw[hzs]at ho';have hg2:=ho'.gr;have hzl:(xs++ys).length<=7:=by simp;omega
  generalize xs++ys=zs at *;have hvH:Ev ev em A env c2 0 H2:=hv.mono (hoth _ (by omega) (by omega)) (hoth _ (by omega) (by omega)) (λq h1 h2=>hoth q (by omega) (by omega));have hkH:cT h H2 kb:=λq h1 h2 h3 h4=>(hoth q (by omega) (by omega)).trans (hkp q h1 h2 h3 h4);have hbH:H2.get (kb+1)=some (h.next (kb+1),.blk p.cells 9 true true false):=(hoth _ (by omega) (by omega)).trans hb;clear hb hgl ho hv hkp hoth ho';have hvH':=hvH;obtain⟨vi,bs,ck,a1,a2,a3⟩:=hvH;have ha0':(0<=p.value)=True:=eq_true ha0;subst hA;have hfl:=λh'=>hg2.flen h';obtain⟨H3,hH3⟩:∃H3:Hp,H3=(H2.put (kb+25) (H2.next (kb+25)) (.blk [.str [],.sl true [] true,.sl true [] true] 3 true true false)).put (kb+25) (H2.next (kb+25)) (.blk [.str a.elem.bs,.sl a.dims.nl (a.dims.es.map aE) a.dims.cl,.sl a.data.nl (a.data.es.map aE) a.data.cl] 3 true true false):=⟨_,rfl⟩
  have h3o:∀q,q≠kb+25->H3.get q=H2.get q:=by intro q hq;rw[hH3,aB,if_neg (by omega),aB,if_neg (by omega)]
  have h3a:H3.get (kb+25)=some (H2.next (kb+25),.blk [.str a.elem.bs,.sl a.dims.nl (a.dims.es.map aE) a.dims.cl,.sl a.data.nl (a.data.es.map aE) a.data.cl] 3 true true false):=by rw[hH3,aB,if_pos rfl]
  have hv3:Ev ev em (.sl anl (arrs.map Arr.av) acl) env c2 0 H3:=hvH'.mono (h3o _ (by omega)) (h3o _ (by omega)) (λq h1 h2=>h3o q (by omega));have hk3:cT h H3 kb:=λq h1 h2 h3 h4=>(h3o q (by omega)).trans (hkH q h1 h2 h3 h4);have hb3:H3.get (kb+1)=some (h.next (kb+1),.blk p.cells 9 true true false):=(h3o _ (by omega)).trans hbH;have hg3:Gr H3 k' v' zs:=hg2.mono (h3o _ (by omega));cases b1:decide ((zs.length:Int)=a.dims.es.length)
  case false=>have hR:qM a p.dyn p.check zs c2 = .er 13:=if_pos (aK b1);simp only[a1,fD,hbH,aA.cells,ha0',ha,↓hfl,b1,go_sem,seval];refine And.intro (by simp[bM,cF,R.apart,R.uses,X.tmp,Eff.apart,j5,Nat.testBit]) ?_;rw[<-hH3];refine aN (.inl rfl) (B:=(kb+29+1)*65536) rfl (c337 h337 ev em _ env c2 _ H3 (by omega) hv3 13 (by decide)) ?_;rintro r h' ⟨q1,⟨m,rfl⟩,q3,env',c',q4⟩;simp only[ha,hR,go_sem,seval];exact⟨hk3.trans q1 (by omega),⟨m,rfl⟩,by decide,env',c',q4⟩
  have n1:=aG b1;have hR:qM a p.dyn p.check zs c2=if eO p.dyn zs a.dims.es=2 then .er 2 else
    if eO p.dyn zs a.dims.es=1 then .ok 0 {c2 with rd:=wr .i64 (c2.rd+1),vi:=if p.check=0 then c2.vi else c2.vi++[p.check]} else
    .ok (atA a zs).1 {c2 with rd:=wr .i64 (c2.rd+1)}:=by rw[qM,if_neg (by simpa using n1)]
  simp only[a1,fD,hbH,aA.cells,ha0',ha,↓hfl,b1,go_sem,seval];refine And.intro (by simp[bM,cF,R.apart,R.uses,X.tmp,Eff.apart,j5,Nat.testBit]) ?_;rw[<-hH3];have hzb:zs.length<=big:=by simp only[big];omega
  refine aM zs (λd r e hp=>∃fl,e=oB (.pt 17 ev 0) (.pt (kb+1) (h.next (kb+1)) 0) v' (.pt (kb+25) (H2.next (kb+25)) 0) (.bool fl) v' (.int .i64 zs.length) (.int .i64 d.length)/\hp=H3 /\
   ((fl=false/\eO p.dyn zs a.dims.es=eO p.dyn r (a.dims.es.drop d.length))\/(fl=true/\r=[]/\eO p.dyn zs a.dims.es=1))) ?_ ?_ ?_
  exact⟨false,rfl,rfl,.inl ⟨rfl,rfl⟩⟩;rintro e hp ⟨fl,rfl,rfl,hI⟩;have hv3':=hv3;obtain⟨vi,bs,ck,a1,a2,a3⟩:=hv3;have k24:(17=kb+25)=False:=eq_false (by omega);have k16:(17=kb+1)=False:=eq_false (by omega);have k24':(kb=24)=False:=eq_false (by omega);rcases hI with ⟨rfl,hI⟩|⟨rfl,_,hI⟩
  have hs0:eO p.dyn zs a.dims.es=0:=hI;rw[if_neg (by rw[hs0];decide),if_neg (by rw[hs0];decide)]at hR;simp only[oA,oB,aY,a1,fD,k24,k16,h3a,go_sem,seval];rw[<-Arr.avc];generalize hH4:(hp.put 17 ev _:Hp)=H4;have h4o:∀q,q≠17->H4.get q=hp.get q:=by intro q hq;rw[<-hH4,aB,if_neg (by omega)]
  have hv4:Ev ev em (.sl anl (arrs.map Arr.av) acl) env {c2 with rd:=wr .i64 (c2.rd+1)} 0 H4:=
   ⟨vi,bs,ck,by rw[<-hH4,aB,if_pos rfl];rfl,(h4o _ (by decide)).trans a2,a3.mono (λq h1 h2=>h4o q (by omega))⟩
  obtain⟨n4,c4,keys,hsn,_⟩:=(hg3.mono (h4o _ (by omega))).snap1;refine dU (h384 n4 c4 zs) (dS (Arr.tree_av a) hsn) rfl rfl ?_;simp only[atV,ha,hR,go_sem,seval];exact⟨λq h1 h2 h3 h4=>(h4o q h2).trans (hk3 q h1 h2 h3 h4),rfl,hv4⟩;rw[if_neg (by rw[hI];decide),if_pos hI]at hR;simp only[oA,oB,aY,a1,fD,k24,k16,hb3,aA.cells,go_sem,seval];cases hck:decide (p.check=0)
  case true=>rw[if_pos (aG hck)]at hR;simp only[ha,hR,go_sem,seval];refine⟨λq h1 h2 h3 h4=>?_,rfl,vi,bs,ck,by rw[aB,if_pos rfl];rfl,?_,a3.mono (λq h1 h2=>?_)⟩;rw[aB,if_neg (Ne.symm h2)];exact hk3 q h1 h2 h3 h4;rw[aB,if_neg (by decide)];exact a2;rw[aB,if_neg (by omega)]
  case false=>
   rw[if_neg (aK hck)]at hR;simp only[k16,hb3,aA.cells,go_sem,seval];generalize hH4:(hp.put 17 ev _:Hp)=H4;have h4o:∀q,q≠17->H4.get q=hp.get q:=by intro q hq;rw[<-hH4,aB,if_neg (by omega)]
   have h4v:H4.get 17=some (ev,.blk [.mp 13 em,.sl anl (arrs.map Arr.av) acl,.int .i64 (wr .i64 (c2.rd+1)),.int .i64 0,.int .i64 c2.ops,.int .i64 0,vi,.int .i64 c2.wk,.int .i64 0] 9 true true false):=by rw[<-hH4,aB,if_pos rfl]
   obtain⟨kv,gv,gk1,gk2⟩:=a3;have hvl:c2.vi.length+1<=1073741824:=by refine(hcn.bnd (pU ?_ hcn.1 hcn.2.2 hK)).room;intro f hf;simp only[List.mem_map]at hf;obtain⟨q,hq,rfl⟩:=hf;exact kO arrs q
   refine aFi (s:=37) (k1:=kv) (es:=c2.vi) (gv.mono (h4o _ (by omega))) hvl (by decide) ?_;intro v5 rd5 pa5 ho5 hrf hot hsh;have k36:(17=kb+37)=False:=eq_false (by omega);have h5v:=(hot 17 (by omega) (by omega)).trans h4v;generalize hE5:Eff.app H4 (.pat rd5 pa5)=H5 at *;obtain⟨o1,o2,o3⟩:=ho5.one;simp only[h5v,o1,o2,o3,go_sem,seval];refine And.intro (by rcases hsh with ⟨e,ob,rfl,rfl⟩|⟨e1,o1,e,ob,rfl,rfl⟩<;>kernel_rfl) ?_;simp only[ha,hR,go_sem,seval];refine⟨λq h1 h2 h3 h4=>?_,rfl,v5,bs,ck,by rw[aB,if_pos rfl];rfl,?_,kb+37,ho5.mono ?_,by omega,by omega,.inr hrf⟩;rw[aB,if_neg (Ne.symm h2),hot q (by omega) (by intro e;subst e;exact h4 gk2.1),h4o q h2];exact hk3 q h1 h2 h3 h4;rw[aB,if_neg (by decide),hot 13 (by omega) (by omega),h4o 13 (by decide)];exact a2;rw[aB,if_neg (by omega)]
  ·rintro d x r e hp hes ⟨fl,rfl,rfl,hI⟩;obtain⟨hget,e1,e2,ew⟩:=cG hes hzb;rcases hI with ⟨rfl,hI⟩|⟨_,h,_⟩
   rotate_left
   cases h;have hd:d.length<a.dims.es.length:=by
    have:d.length<zs.length:=by rw[hes];simp
    omega
   obtain⟨y,gy⟩:∃y,a.dims.es[d.length]?=some y:=⟨a.dims.es[d.length]'hd,bJ hd⟩
   have hdr:a.dims.es.drop d.length=y::a.dims.es.drop (d++[x]).length:=by rw[mQ hd,(bS.1 gy).2];simp
   rw[hdr,eO]at hI;have f1:((d.length:Int)<(a.dims.es.length:Int))=True:=eq_true (by omega);obtain⟨pp,rd,g1,g2⟩:=hg3.at (i:=(d.length:Int)) (by omega) (by simpa using hget);have hzd:zs.length=d.length+(r.length+1):=by rw[hes];simp
   have w1:wr .i64 ((zs.length:Int)-1)=(zs.length:Int)-1:=mY (by omega) (by simp only[big]at hzb;omega);have hin:decide (0<=x)=true->decide (x<y)=true->eO p.dyn zs a.dims.es=eO p.dyn r (a.dims.es.drop (d++[x]).length):=by intro b1 b2;rw[hI,if_pos ⟨aG b1,aG b2⟩]
   have hout:¬(0<=x/\x<y)->eO p.dyn zs a.dims.es=if p.dyn=false\/r≠[] then 2 else 1:=by intro b;rw[hI,if_neg b]
   cases b2:decide (0<=x)
   case' false=>have ho:=hout (by simp at b2;omega)
   case' true=>
    cases b3:decide (x<y)
    case true=>simp only[oA,oB,e1,e2,↓g1,↓g2,b2,b3,gy,f1,h3a,ew,go_sem,seval];exact⟨false,rfl,.inl ⟨rfl,hin b2 b3⟩⟩
    have ho:=hout (by simp at b3;omega)
   all_goals
    cases hdyn:p.dyn
    case false=>
     rw[if_pos (.inl hdyn)]at ho;rw[if_pos ho,hdyn]at hR;simp only[oA,oB,e1,e2,↓g1,↓g2,b2,gy,f1,h3a,hb3,aA.cells,hdyn,go_sem,seval]
     try simp only[b3,gy,f1,h3a,hb3,aA.cells,hdyn,go_sem,seval]
     refine aN (.inl rfl) (B:=(kb+33+1)*65536) rfl (c337 h337 ev em _ env c2 _ _ (by omega) hv3 2 (by decide)) ?_;rintro r h' ⟨q1,⟨m,rfl⟩,q3,env',c',q4⟩;simp only[ha,hR,go_sem,seval];exact⟨hk3.trans q1 (by omega),⟨m,rfl⟩,by decide,env',c',q4⟩
    case true=>
     rcases r with _|⟨x2,r⟩
     ·rw[if_neg (by simp[hdyn])]at ho;have d1:decide ((d.length:Int)<(zs.length:Int)-1)=false:=by simp;simp at hzd;omega
      simp only[oA,oB,e1,e2,↓g1,↓g2,b2,gy,f1,h3a,hb3,aA.cells,hdyn,↓hfl,w1,d1,ew,go_sem,seval]
      try simp only[b3,gy,f1,h3a,hb3,aA.cells,hdyn,↓hfl,w1,d1,ew,go_sem,seval]
      exact⟨true,rfl,.inr ⟨rfl,by rw[hdyn]at ho;exact ho⟩⟩
     ·rw[if_pos (.inr (by simp))]at ho;rw[if_pos ho,hdyn]at hR;have d1:decide ((d.length:Int)<(zs.length:Int)-1)=true:=by simp;simp at hzd;omega
      simp only[oA,oB,e1,e2,↓g1,↓g2,b2,gy,f1,h3a,hb3,aA.cells,hdyn,↓hfl,w1,d1,go_sem,seval]
      try simp only[b3,gy,f1,h3a,hb3,aA.cells,hdyn,↓hfl,w1,d1,go_sem,seval]
      refine aN (.inl rfl) (B:=(kb+33+1)*65536) rfl (c337 h337 ev em _ env c2 _ _ (by omega) hv3 2 (by decide)) ?_;rintro r h' ⟨q1,⟨m,rfl⟩,q3,env',c',q4⟩;simp only[ha,hR,go_sem,seval];exact⟨hk3.trans q1 (by omega),⟨m,rfl⟩,by decide,env',c',q4⟩
 rintro d x r e hp hes ⟨v,xs,rfl,hb,hgl,ho,hl,hv,hkp,hI⟩;obtain⟨hget,e1,e2,ew⟩:=cG hes hat2;have hdl:d.length<p.at_.es.length:=by rw[hes];simp
 rw[rX]at hI;have hvH:∀o1 o2,Ev ev em A env c2 0 ((hp.put (kb+9) (hp.next (kb+9)) o1).put (kb+9) (hp.next (kb+9)) o2):=by intro o1 o2;refine hv.mono ?_ ?_ ?_;rw[aB,if_neg (by omega),aB,if_neg (by omega)];rw[aB,if_neg (by omega),aB,if_neg (by omega)];intro q h1 h2;rw[aB,if_neg (by omega),aB,if_neg (by omega)]
 have hkH:∀o1 o2,cT h ((hp.put (kb+9) (hp.next (kb+9)) o1).put (kb+9) (hp.next (kb+9)) o2) kb:=by intro o1 o2 q h1 h2 h3 h4;rw[aB,if_neg (by omega),aB,if_neg (by omega)];exact hkp q h1 h2 h3 h4
 simp only[EW,EX,e1,e2,hget,go_sem,seval];rw[<-Lin.avc];refine aN (.inl rfl) (B:=(kb+13+1)*65536) (by rw[Lin.avc];rfl) (c339 h339 h337 ev em A env c2 _ _ (by omega) (by omega) (hvH _ _) x) ?_;generalize hH:((hp.put (kb+9) _ _).put (kb+9) _ _:Hp)=H;have hoH:∀q,q≠kb+9->H.get q=hp.get q:=by intro q hq;rw[<-hH,aB,if_neg (by omega),aB,if_neg (by omega)]
 have hkH':cT h H kb:=by rw[<-hH];exact hkH _ _
 rintro r' h' ⟨q1,q2⟩;have hq:∀q,q<(kb+13+1)*65536->q≠kb+9->q≠17->q≠13->q % 65536≠37->h'.get q=hp.get q:=λq b1 b2 b3 b4 b5=>(q1 q b1 b3 b4 b5).trans (hoH q b2);have hk':cT h h' kb:=hkH'.trans q1 (by omega);have ho':Own h' (kb+17) 1 false v (xs.map aE):=ho.mono (hq _ (by omega) (by omega) (by omega) (by omega) (by omega));have hgl':Gr h' ((kb+5+1)*65536+13) last ys:=hgl.mono (hq _ (by omega) (by omega) (by omega) (by omega) (by omega));have hb':h'.get (kb+1)=some (h.next (kb+1),.blk p.cells 9 true true false):=(hq _ (by omega) (by omega) (by omega) (by omega) (by omega)).trans hb;cases hL:gY env x with
 |none=>rw[hL]at q2 hI;obtain⟨⟨m,rfl⟩,he,env',c'',q4⟩:=q2;refine Wk ?_;refine kN (s:=17) (es:=xs.map aE) ho' (El.ints _) (xs:=[.int .i64 m]) (by intro z hz;simp at hz;subst hz;exact⟨rfl,rfl,rfl⟩) (by simp only[bD,List.length_singleton];omega) (by decide) ?_;intro v' rd pa ho2 hk2 _;generalize Eff.app h' (.pat rd pa)=H2 at *;have q5:Ev ev em A env' c'' 3 H2:=q4.mono (hk2 _ (by omega)) (hk2 _ (by omega)) (λq h1 h2=>hk2 q (by omega));have q6:cT h H2 kb:=λq h1 h2 h3 h4=>(hk2 q (by omega)).trans (hk' q h1 h2 h3 h4);have q5':=q5;obtain⟨vi,bs,ck,a1,a2,a3⟩:=q5;simp only[a1,fD,go_sem,seval];simp only[hI];exact⟨q6,⟨0,rfl⟩,by decide,env',c'',q5'⟩
 |some n=>rw[hL]at q2 hI;obtain⟨rfl,q4⟩:=q2;refine Wk ?_;refine kN (s:=17) (es:=xs.map aE) ho' (El.ints _) (xs:=[.int .i64 n]) (by intro z hz;simp at hz;subst hz;exact⟨rfl,rfl,rfl⟩) (by simp only[bD,List.length_singleton];omega) (by decide) ?_;intro v' rd pa ho2 hk2 _;generalize Eff.app h' (.pat rd pa)=H2 at *;have q5:Ev ev em A env c2 0 H2:=q4.mono (hk2 _ (by omega)) (hk2 _ (by omega)) (λq h1 h2=>hk2 q (by omega));have q6:cT h H2 kb:=λq h1 h2 h3 h4=>(hk2 q (by omega)).trans (hk' q h1 h2 h3 h4);have q5':=q5;obtain⟨vi,bs,ck,a1,a2,a3⟩:=q5;simp only[a1,fD,ew,go_sem,seval];exact⟨v',xs++[n],rfl,(hk2 _ (by omega)).trans hb',hgl'.mono (hk2 _ (by omega)),by simpa[aE] using ho2,by simp;omega,q5',q6,hI⟩
end
end
section
private theorem eq1s(a b:List UInt8):eq1 (.str a) (.str b)=some (decide (a=b)):=rfl
theorem CR(s:Str)(i:Int):∀{env:List Val},(∀v∈env,¬v.v.bs=s.bs)->eP (kvE env) (.str s.bs) (.int .i64 i)=kvE (env++[⟨s,i⟩])
 |[],_=>rfl
 |x::r,h=>by have hx:¬s.bs=x.v.bs:=λe=>h x (by simp) e.symm;have ih:=CR s i (env:=r) (λv hv=>h v (cC _ hv));simp only[kvE,List.map_cons,List.cons_append,eP,eq1s,hx,decide_false]at ih ⊢;rw[ih]
theorem FV(s:Str)(i j:Int):∀{env:List Val},(∀v∈env,¬v.v.bs=s.bs)->eP (kvE (env++[⟨s,j⟩])) (.str s.bs) (.int .i64 i)=kvE (env++[⟨s,i⟩])
 |[],_=>by simp[kvE,eP,eq1s]
 |x::r,h=>by have hx:¬s.bs=x.v.bs:=λe=>h x (by simp) e.symm;have ih:=FV s i j (env:=r) (λv hv=>h v (cC _ hv));simp only[kvE,List.map_cons,List.cons_append,eP,eq1s,hx,decide_false]at ih ⊢;rw[ih]
theorem MV(s:Str):∀{env:List Val},(∀v∈env,¬v.v.bs=s.bs)->eZ (kvE env) (.str s.bs)=kvE env
 |[],_=>rfl
 |x::r,h=>by have hx:¬s.bs=x.v.bs:=λe=>h x (by simp) e.symm;have ih:=MV s (env:=r) (λv hv=>h v (cC _ hv));simp only[kvE,List.map_cons,eZ,eq1s,hx,decide_false]at ih ⊢;rw[ih]
theorem GZ(s:Str)(j:Int):∀{env:List Val},(∀v∈env,¬v.v.bs=s.bs)->eZ (kvE (env++[⟨s,j⟩])) (.str s.bs)=kvE env
 |[],_=>by simp[kvE,eZ,eq1s]
 |x::r,h=>by have hx:¬s.bs=x.v.bs:=λe=>h x (by simp) e.symm;have ih:=GZ s j (env:=r) (λv hv=>h v (cC _ hv));simp only[kvE,List.map_cons,List.cons_append,eZ,eq1s,hx,decide_false]at ih ⊢;rw[ih]
theorem MW(s:List UInt8):∀env:List Val,∃env2,eZ (kvE env) (.str s)=kvE env2
 |[]=>⟨[],rfl⟩
 |x::r=>by obtain⟨e2,ih⟩:=MW s r;by_cases hx:s=x.v.bs;exact⟨r,by simp[kvE,eZ,eq1s,hx]⟩;refine⟨x::e2,?_⟩;simp only[kvE,List.map_cons,eZ,eq1s,hx,decide_false]at ih ⊢;rw[ih]
def aHl(ev em:Nat)(A:AV)(env:List Val)(h:Hp)(kb e1:Nat)(p:aA)(g:EvF)(M:Int)(T:Rs)(a:Nat×Bool)(e:List AV)(hp:Hp):Prop:=
 hp.get (kb+1)=some (e1,.blk p.cells 9 true true false)/\cT h hp kb/\∃(i acc:Int)(envx:List Val)(c':Cn)(err:Int),e=qC (.pt 17 ev 0) (.pt (kb+1) e1 0) (.int .i64 acc) (.int .i64 M) (.int .i64 i) /\
  Ev ev em A envx c' err hp/\match a.2 with
  |true=>lM c'/\err=0/\0<=i/\i<=1099511627776/\M<=1099511627776/\a.1=(M-i).toNat/\(envx=env\/∃j,envx=env++[⟨p.name,j⟩])/\T=oF p.fn.es p.name g env a.1 i acc c'
  |false=>err≠0/\T = .er err
section
variable{pg:Pg}
set_option maxRecDepth 100000 in
set_option maxHeartbeats 1000000 in
theorem c341(hf:pg.fs 341=some BU)(h337:pg.fs 337=some qP)(h339:pg.fs 339=some vH)(h343:pg.fs 343=some yW)(h315:∀nl cl (fn:List aH),fn.length<=big->∀nl' cl' (xs:List Int),xs.length<=big->Ret pg 315 [.sl nl (fn.map aH.av) cl,.sl nl' (xs.map aE) cl'] (oH fn xs))
  (arrs:List Arr) (A:AV) (ev em:Nat) (env:List Val) (c:Cn) (kb:Nat) (h:Hp) (hkb:65536<=kb) (hkb2:kb % 65536=0)
  (hcn:lM c) (hv:Ev ev em A env c 0 h) (p:aA) (k0 k1:aA) (hks:p.kids=[k0,k1]) (l:Lin) (hat:p.at_.es=[l]) (hno:∀v∈env,¬v.v.bs=p.name.bs)
  (ih0:EvC pg arrs A k0 env) (ih1:∀i:Int,0<=i->i<=1099511627776->EvC pg arrs A k1 (env++[⟨p.name,i⟩])) :
  cL pg 341 [.pt 17 ev 0,p.av] kb h (EvP ev em A env h kb (xH p (p.kids.map (evU arrs)) env c)):=by
 refine cL.ofX hf ?_;unfold BU;have n16:(kb=16)=False:=eq_false (by omega);have hk0:p.kids[0]?=some k0:=by rw[hks];rfl
 have hk1:p.kids[1]?=some k1:=by rw[hks];rfl
 have hl0:p.at_.es[0]?=some l:=by rw[hat];rfl
 simp only[hk0,go_sem,seval];generalize hH:(h.put (kb+1) _ _:Hp)=H;have hb1:H.get (kb+1)=some (h.next (kb+1),.blk p.cells 9 true true false):=by rw[<-hH,aB,if_pos rfl];rfl
 have hvH:Ev ev em A env c 0 H:=by rw[<-hH];refine hv.mono ?_ ?_ ?_;rw[aB,if_neg (by omega)];rw[aB,if_neg (by omega)];intro q h1 h2;rw[aB,if_neg (by omega)]
 have hkH:cT h H kb:=by rw[<-hH];intro q h1 h2 h3 h4;rw[aB,if_neg (by omega)]
 clear hH
 try rw[<-aA.avc]
 refine aN (.inl rfl) (B:=(kb+5+1)*65536) (by rw[aA.av_eq k0];rfl) (ih0 ev em c _ H (by omega) (by omega) hcn hvH) ?_;rintro n0 h1 ⟨q1,q2⟩;have hb2:h1.get (kb+1)=some (h.next (kb+1),.blk p.cells 9 true true false):=(q1 _ (by omega) (by omega) (by omega) (by omega)).trans hb1;have hkv1:cT h h1 kb:=hkH.trans q1 (by omega)
 have hR:xH p (p.kids.map (evU arrs)) env c=match evU arrs k0 env c with
  |.er e => .er e
  |.ok n c2=>match gY env l with
   |none => .er 3
   |some m=>oF p.fn.es p.name (evU arrs k1) env m.toNat 0 n c2:=by
  simp only[xH,hks,List.map_cons,List.map_nil,DE,hat];rfl
 rw[hR];cases hE:evU arrs k0 env c with
 |er e=>
  rw[hE]at q2 hR;obtain⟨⟨m,rfl⟩,he,env',c',q4⟩:=q2;have q4':=q4;obtain⟨vi,bs,ck,a1,a2,a3⟩:=q4;have hne:decide (e=0)=false:=by simp[he]
  simp only[a1,fD,hne,go_sem,seval];exact⟨hkv1,⟨0,rfl⟩,he,env',c',q4'⟩
 |ok n c2=>
 rw[hE]at q2;obtain⟨rfl,hv1⟩:=q2;have hv1':=hv1;obtain⟨vi,bs,ck,a1,a2,a3⟩:=hv1;simp only[a1,fD,hb2,aA.cells,hl0,go_sem,seval];clear a1 a2 a3 vi bs ck
 try rw[<-Lin.avc]
 refine aN (.inl rfl) (B:=(kb+9+1)*65536) (by rw[Lin.avc];rfl) (c339 h339 h337 ev em A env c2 _ h1 (by omega) (by omega) hv1' l) ?_;rintro m0 h2 ⟨q5,q6⟩;have hb3:h2.get (kb+1)=some (h.next (kb+1),.blk p.cells 9 true true false):=(q5 _ (by omega) (by omega) (by omega) (by omega)).trans hb2;have hkv2:cT h h2 kb:=hkv1.trans q5 (by omega)
 obtain⟨T,hT⟩:∃T,T=(match gY env l with
   |none=>Rs.er 3
   |some m=>oF p.fn.es p.name (evU arrs k1) env m.toNat 0 n c2):=⟨_,rfl⟩
 rw[<-hT];obtain⟨M,rfl⟩:∃M,m0 = .int .i64 M:=by
  cases hL:gY env l with
  |none=>rw[hL]at q6;exact q6.1
  |some m=>rw[hL]at q6;exact⟨m,q6.1⟩
 have start:∃a0,aHl ev em A env h kb (h.next (kb+1)) p (evU arrs k1) M T a0 (qC (.pt 17 ev 0) (.pt (kb+1) (h.next (kb+1)) 0) (.int .i64 n) (.int .i64 M) (.int .i64 0)) h2:=by
  cases hL:gY env l with
  |none=>rw[hL]at q6 hT;obtain⟨_,he,env',c',q7⟩:=q6;exact⟨(0,false),hb3,hkv2,0,n,env',c',3,rfl,q7,he,hT⟩
  |some m=>
   rw[hL]at q6 hT;obtain⟨hm,q7⟩:=q6;cases hm;have hM:M<=1099511627776:=by unfold gY at hL;split at hL;cases hL;split at hL;cases hL;cases hL;omega
   exact⟨((M-0).toNat,true),hb3,hkv2,0,n,env,c2,0,rfl,q7,hcn.bnd (kO arrs k0 env c _ c2 hcn.1 hcn.2.2 hE),rfl,Int.le_refl _,by omega,hM,rfl,.inl rfl,by rw[hT];simp⟩
 obtain⟨a0,ha0⟩:=start;refine Wk ?_;have hqs:∀s:List UInt8,(AV.str s).keyQ 1=true:=λ_=>rfl;refine uN (λa:Nat×Bool=>2*a.1+(if a.2 then 1 else 0)) (aHl ev em A env h kb (h.next (kb+1)) p (evU arrs k1) M T) a0 ha0 ?_;rintro⟨k,run⟩ e hp ⟨hb,hkp,i,acc,envx,c',err,rfl,hvx,hrest⟩;have hvx':=hvx;obtain⟨vi,bs,ck,a1,a2,a3⟩:=hvx;have hmd:tU hp 1 [.mp 13 em,.str p.name.bs]=some (.tup [],.pat [13] [⟨13,em,.mpo (eZ (kvE envx) (.str p.name.bs)) (nI (kvE envx) bs (.str p.name.bs)) ck⟩]):=by simp only[tU,a2,hqs,and_self,if_true,pD]
 have hdone:∀env2,eZ (kvE envx) (.str p.name.bs)=kvE env2->Ev ev em A env2 c' err (hp.put 13 em (.mpo (eZ (kvE envx) (.str p.name.bs)) (nI (kvE envx) bs (.str p.name.bs)) ck))/\cT h (hp.put 13 em (.mpo (eZ (kvE envx) (.str p.name.bs)) (nI (kvE envx) bs (.str p.name.bs)) ck)) kb:=by intro env2 he2;refine⟨⟨vi,_,_,?_,by rw[aB,if_pos rfl,he2],a3.mono (λq h1 h2=>by rw[aB,if_neg (by omega)])⟩,?_⟩;rw[aB,if_neg (by decide)];exact a1;intro q h1 h2 h3 h4;rw[aB,if_neg (Ne.symm h3)];exact hkp q h1 h2 h3 h4
 cases run;obtain⟨he,hT2⟩:=hrest;have hne:decide (err=0)=false:=by simp[he]
 obtain⟨env2,he2⟩:=MW p.name.bs envx;obtain⟨d1,d2⟩:=hdone env2 he2;cases b1:decide (i<M);simp only[sI,qC,b1,a1,fD,hb,aA.cells,↓hmd,go_sem,seval];refine bI ?_;rw[hT2];exact⟨d2,⟨acc,rfl⟩,he,env2,c',d1⟩;simp only[sI,qC,b1,a1,fD,hb,aA.cells,↓hmd,hne,go_sem,seval];refine bI ?_;rw[hT2];exact⟨d2,⟨acc,rfl⟩,he,env2,c',d1⟩
 ·obtain⟨hcn',rfl,i0,i1,hM,hk,henv,hT2⟩:=hrest;cases b1:decide (i<M);have hk0':k=0:=by simp at b1;simp only at hk;omega
  subst hk0';have hT3:T = .ok acc c':=hT2;have hdel:eZ (kvE envx) (.str p.name.bs)=kvE env:=by
   rcases henv with rfl|⟨j,rfl⟩
   exact MV p.name hno;exact GZ p.name j hno
  obtain⟨d1,d2⟩:=hdone env hdel;simp only[sI,qC,b1,a1,fD,hb,aA.cells,↓hmd,go_sem,seval];refine bI ?_;rw[hT3];exact⟨d2,rfl,d1⟩
  ·have hiM:i<M:=aG b1;obtain⟨k',rfl⟩:∃k',k=k'+1:=⟨k-1,by simp only at hk;omega⟩
   have hk2:k'=(M-(i+1)).toNat:=by simp only at hk;omega
   have wi:wr .i64 (i+1)=i+1:=mY (by omega) (by omega);have hset:eP (kvE envx) (.str p.name.bs) (.int .i64 i)=kvE (env++[⟨p.name,i⟩]):=by
    rcases henv with rfl|⟨j,rfl⟩
    exact CR p.name i hno;exact FV p.name i j hno
   have hfi:(AV.int .i64 i).fits (AV.int .i64 i).cells.length (AV.int .i64 i).isAgg=true:=rfl;obtain⟨bs2,ck2,hmu⟩:∃bs2 ck2,u7 hp 1 [.mp 13 em,.str p.name.bs,.int .i64 i]=some (.tup [],.pat [13] [⟨13,em,.mpo (kvE (env++[⟨p.name,i⟩])) bs2 ck2⟩]):=by refine⟨sS ((gS envx p.name.bs).map λn=>AV.int .i64 n) bs ck,sC ((gS envx p.name.bs).map λn=>AV.int .i64 n) ck,?_⟩;simp only[u7,a2,hqs,hfi,and_self,if_true,pD,hset]
   obtain⟨H5,hH5⟩:∃H5:Hp,H5=hp.put 13 em (.mpo (kvE (env++[⟨p.name,i⟩])) bs2 ck2):=⟨_,rfl⟩
   have h5o:∀q,q≠13->H5.get q=hp.get q:=by intro q hq;rw[hH5,aB,if_neg (Ne.symm hq)]
   have hv5:Ev ev em A (env++[⟨p.name,i⟩]) c' 0 H5:=
    ⟨vi,bs2,ck2,(h5o _ (by decide)).trans a1,by rw[hH5,aB,if_pos rfl],a3.mono (λq h1 h2=>h5o q (by omega))⟩
   have hkp5:cT h H5 kb:=λq h1 h2 h3 h4=>(h5o q h3).trans (hkp q h1 h2 h3 h4);have hb5:H5.get (kb+1)=some (h.next (kb+1),.blk p.cells 9 true true false):=(h5o _ (by omega)).trans hb;have n12:(kb=12)=False:=eq_false (by omega);simp only[sI,qC,b1,a1,fD,hb,aA.cells,↓hmu,go_sem,seval];refine bI ?_;simp only[hb,n12,aA.cells,aA.kav,hk1,go_sem,seval]
   try rw[<-aA.avc]
   rw[<-hH5];refine aN (.inl rfl) (B:=(kb+13+1)*65536) (by rw[aA.av_eq k1];rfl) (ih1 i i0 (by omega) ev em c' _ H5 (by omega) (by omega) hcn' hv5) ?_;rintro y h' ⟨q8,q9⟩;have hb6:h'.get (kb+1)=some (h.next (kb+1),.blk p.cells 9 true true false):=(q8 _ (by omega) (by omega) (by omega) (by omega)).trans hb5;have hkp6:cT h h' kb:=hkp5.trans q8 (by omega);rw[oF]at hT2;cases hE1:evU arrs k1 (env++[⟨p.name,i⟩]) c' with
   |er e2=>
    rw[hE1]at q9 hT2;obtain⟨⟨y0,rfl⟩,he2,env3,c3,q10⟩:=q9;have q10':=q10;obtain⟨vi3,bs3,ck3,b1',b2',b3'⟩:=q10;have hne2:decide (e2=0)=false:=by simp[he2]
    simp only[b1',fD,hne2,wi,go_sem,seval];exact⟨(0,false),by simp,hb6,hkp6,i+1,acc,env3,c3,e2,rfl,q10',he2,hT2⟩
   |ok y0 c3=>
    rw[hE1]at q9 hT2;obtain⟨rfl,q10⟩:=q9;have q10':=q10;obtain⟨vi3,bs3,ck3,b1',b2',b3'⟩:=q10;simp only[b1',fD,hb6,aA.cells,go_sem,seval];have hgr:∀hh:Hp,Gr hh 0 (.sl false [.int .i64 acc,.int .i64 y0] true) [acc,y0]:=λhh => .inl ⟨false,true,rfl,rfl⟩;refine aN (.inl rfl) (B:=(kb+17+1)*65536) rfl (c343 h343 h337 h315 ev em A _ c3 _ h' (by omega) (by omega) q10' p.fn.nl p.fn.cl p.fn.es p.fn.ok _ 0 [acc,y0] (hgr h') (by simp[big])) ?_;rintro z h7 ⟨q11,q12⟩;have hb7:h7.get (kb+1)=some (h.next (kb+1),.blk p.cells 9 true true false):=(q11 _ (by omega) (by omega) (by omega) (by omega)).trans hb6;have hkp7:cT h h7 kb:=hkp6.trans q11 (by omega);simp only at hT2;cases hC:kU p.fn.es [acc,y0] c3 with
    |er e2=>rw[hC]at q12 hT2;obtain⟨⟨z0,rfl⟩,he2,env3,c4,q13⟩:=q12;simp only[wi,go_sem,seval];exact⟨(0,false),by simp,hb7,hkp7,i+1,z0,env3,c4,e2,rfl,q13,he2,hT2⟩
    |ok z0 c4=>rw[hC]at q12 hT2;obtain⟨rfl,q13⟩:=q12;have hcn3:=hcn'.bnd (kO arrs k1 _ c' _ c3 hcn'.1 hcn'.2.2 hE1);have hcn4:lM c4:=hcn3.bnd (nF hcn3.2.2 hC);simp only[wi,go_sem,seval];exact⟨(k',true),by simp,hb7,hkp7,i+1,z0,_,c4,0,rfl,q13,hcn4,rfl,by omega,by omega,hM,hk2,.inr ⟨i,rfl⟩,hT2⟩
end
end
section
theorem lO{p q:aA}(hq:q∈p.kids){v:Int}(hv:v∈cJ q):v∈cJ p:=by
 have mem:∀l:List aA,q∈l->v∈fG l:=by
  intro l
  induction l with
  |nil=>intro h;cases h
  |cons x r ih=>intro h;rw[fG,lS];rcases List.mem_cons.1 h with rfl|h;exact .inl hv;exact .inr (ih h)
 rw[pS,lS];exact .inr (mem _ hq)
theorem oS{values:Int}{name:Str}{vars:List Str}:∀{l:List aA}{i:Nat}{q:aA},cU values false name vars i l=true->q∈l->eJ values q vars=true
 |[],_,_,_,h=>by cases h
 |x::r,i,q,h,hq=>by simp only[cU,Bool.false_and,aD]at h;rcases List.mem_cons.1 hq with rfl|hq;simpa using h.1;exact oS h.2 hq
theorem CE{h:Hp}{k kb s a b c:Nat}{nl cl:Bool}{l:List AV}{v:AV}{xs:List Int}(g:Gr h k v xs)(hk:k<(kb+s+1)*65536):dQ kb s [.pt a b c,.sl nl l cl,v]=(kb+s+1)*65536:=by
 rcases g with ⟨n1,c1,rfl,_⟩|⟨e,rfl,_⟩
 rfl;have h1:decide ((kb+s+1)*65536<=k)=false:=by simp;omega
 simp[dQ,h1]
section
variable{pg:Pg}
def vQ(arrs:List Arr)(q:aA)(env:List Val):Prop:=
 eJ arrs.length q (env.map (·.v))=true/\lB env/\∀v∈cJ q,∃a,arrs[v.toNat]?=some a/\gD a=true
set_option maxRecDepth 100000 in
set_option maxHeartbeats 1000000 in
theorem c304(hf:pg.fs 304=some HT)(h337:pg.fs 337=some qP)(h339:pg.fs 339=some vH)(h340:pg.fs 340=some BV)(h341:pg.fs 341=some BU)(h342:pg.fs 342=some yX)(h343:pg.fs 343=some yW)(h338:pg.fs 338=some yY)
  (h315:∀nl cl (fn:List aH),fn.length<=big->∀nl' cl' (xs:List Int),xs.length<=big->Ret pg 315 [.sl nl (fn.map aH.av) cl,.sl nl' (xs.map aE) cl'] (oH fn xs))
  (h344:∀op nl cl (xs:List Int),xs.length<=big->Ret pg 344 [.str op,.sl nl (xs.map aE) cl] (eQ op xs))
  (arrs:List Arr) (anl acl:Bool) (h384:∀a∈arrs,∀nl cl ix,Ret pg 384 [a.av,.sl nl (ix.map aE) cl] (atV a ix)) :
  ∀p:aA,p.ok->∀env,vQ arrs p env->EvC pg arrs (.sl anl (arrs.map Arr.av) acl) p env:=by
 refine aA.ind' λp ih hpo env hgood ev em c kb h hkb hkb2 hcn hv=>?_;obtain⟨hk,hks⟩:=(aA.ok_iff p).1 hpo;obtain⟨hval,hed,hrd⟩:=hgood;have hval':=hval;rw[kH,aD,aD]at hval';obtain⟨⟨hnode,hover⟩,hvk⟩:=hval';have hkid:decide (p.op.bs=[114,101,100,117,99,101])=false->∀q∈p.kids,EvC pg arrs (.sl anl (arrs.map Arr.av) acl) q env:=by intro hr q hq;rw[hr]at hvk;exact ih q hq (hks q hq) env ⟨oS hvk hq,hed,λv hv=>hrd v (lO hq hv)⟩
 obtain⟨A,hA⟩:∃A,A=AV.sl anl (arrs.map Arr.av) acl:=⟨_,rfl⟩
 rw[JW];refine cL.ofX hf ?_;unfold HT;have n16:(kb=16)=False:=eq_false (by omega);have n16':(17=kb+1)=False:=eq_false (by omega);obtain⟨vi,bs,ck,a1,a2,a3⟩:=hv;rw[<-hA]at ih a1 hkid ⊢;obtain⟨H0,hH0⟩:∃H0:Hp,H0=(h.put (kb+1) (h.next (kb+1)) (.blk p.cells 9 true true false)).put 17 ev (fD (.mp 13 em) A {c with wk:=wr .i64 (c.wk+1)} vi 0):=⟨_,rfl⟩
 have h0o:∀q,q≠17->q≠kb+1->H0.get q=h.get q:=by intro q h1 h2;rw[hH0,aB,if_neg (Ne.symm h1),aB,if_neg (Ne.symm h2)]
 have hb:H0.get (kb+1)=some (h.next (kb+1),.blk p.cells 9 true true false):=by rw[hH0,aB,if_neg (by omega),aB,if_pos rfl]
 have hv0:Ev ev em A env {c with wk:=wr .i64 (c.wk+1)} 0 H0:=⟨vi,bs,ck,by rw[hH0,aB,if_pos rfl],(h0o _ (by decide) (by omega)).trans a2,a3.mono (λq h1 h2=>h0o q (by omega) (by omega))⟩
 have hkp:cT h H0 kb:=λq h1 h2 h3 h4=>h0o q h2 (by omega);simp only[fD,aA.cells,aA.kav,Sl.av]at hH0;have hb':=hb;simp only[aA.cells,aA.kav,Sl.av]at hb';cases w0:decide (1000000<wr .i64 (c.wk+1))
 case true=>have hR:gP arrs p (p.kids.map (evU arrs)) env c = .er 3:=if_pos (aG w0);simp only[a1,fD,n16,w0,go_sem,seval];rw[<-hH0];refine aN (.inl rfl) (B:=(kb+5+1)*65536) rfl (c337 h337 ev em A env _ _ H0 (by omega) hv0 3 (by decide)) ?_;rintro r h' ⟨q1,⟨m,rfl⟩,q3,env',c',q4⟩;simp only[hR,go_sem,seval];exact⟨hkp.trans q1 (by omega),⟨m,rfl⟩,by decide,env',c',q4⟩
 have w1:=aK w0;have hN:=λx=>(if_neg w1:(if 1000000<wr .i64 (c.wk+1) then Rs.er 3 else x)=x)
 have hcn0:lM {c with wk:=wr .i64 (c.wk+1)}:=by obtain⟨c1,c2,c3⟩:=hcn;have w2:wr .i64 (c.wk+1)=c.wk+1:=mY (by omega) (by omega);rw[w2]at w1 ⊢;exact⟨show 0<=c.wk+1 by omega,show (c.vi.length:Int)<=c.wk+1 by omega,show c.wk+1<=1000000 by omega⟩
 generalize hc0:({c with wk:=wr .i64 (c.wk+1)}:Cn)=c0 at *;cases b1:decide (p.op.bs=[99,111,110,115,116])
 case true=>
  have hR:gP arrs p (p.kids.map (evU arrs)) env c = .ok p.num c0:=by rw[gP,hN,if_pos (aG b1),hc0]
  simp only[a1,fD,n16,n16',w0,b1,go_sem,seval];rw[hR];rw[<-hH0];exact⟨hkp,rfl,hv0⟩
 have m1:=aK b1;cases b2:decide (p.op.bs=[108,105,110,101,97,114])
 case true=>
  have m2:=aG b2;rw[bZ,if_neg m1,if_pos m2,aD,aQ]at hnode;obtain⟨l,hl⟩:∃l,p.at_.es=[l]:=by
   have:=hnode.2;rcases hp:p.at_.es with _|⟨l,_|⟨y,z⟩⟩
   rw[hp]at this;simp at this;exact⟨l,rfl⟩;rw[hp]at this;simp at this;omega
  have hl0:p.at_.es[0]?=some l:=by rw[hl];rfl
  have hR:gP arrs p (p.kids.map (evU arrs)) env c=match gY env l with|none => .er 3|some n => .ok (jB n) c0:=by rw[gP,hN,if_neg m1,if_pos m2,hc0];simp only[DE,hl];rfl
  simp only[a1,fD,n16,n16',w0,b1,b2,hl0,go_sem,seval];rw[<-hH0,hR];refine aN (.inl rfl) (B:=(kb+9+1)*65536) (by rw[Lin.avc];rfl) (c339 h339 h337 ev em A env _ _ H0 (by omega) (by omega) hv0 l) ?_;rintro r h' ⟨q1,q2⟩;cases hL:gY env l with
  |none=>rw[hL]at q2;obtain⟨⟨m,rfl⟩,he,env',c',q4⟩:=q2;refine Wk ?_;refine aC (c338 h338 m) (Wk ?_);exact⟨hkp.trans q1 (by omega),⟨_,rfl⟩,by decide,env',c',q4⟩
  |some n=>rw[hL]at q2;obtain⟨rfl,q4⟩:=q2;refine Wk ?_;refine aC (c338 h338 n) (Wk ?_);exact⟨hkp.trans q1 (by omega),rfl,q4⟩
 have m2:=aK b2;cases b3:decide (p.op.bs=[114,101,97,100])
 case true=>
  have m3:=aG b3;have hnr:decide (p.op.bs=[114,101,100,117,99,101])=false:=by rw[m3];rfl
  rw[bZ,if_neg m1,if_neg m2,if_pos m3,kZ]at hnode;simp only[aD,aQ]at hnode;obtain⟨⟨⟨⟨_,v0⟩,v1⟩,_⟩,vk⟩:=hnode;obtain⟨x,hx⟩:∃x,arrs[p.value.toNat]?=some x:=⟨arrs[p.value.toNat]'(by omega),bJ (by omega)⟩
  have hkl:p.kids.length<=1/\p.at_.es.length<=6:=by cases hdy:p.dyn;simp only[hdy,Bool.false_eq_true,if_false,aD,aQ]at vk;omega;simp only[hdy,if_true,aD,aQ]at vk;omega
  have hR:gP arrs p (p.kids.map (evU arrs)) env c=mI arrs p (p.kids.map (evU arrs)) env c0:=by rw[gP,hN,if_neg m1,if_neg m2,if_pos m3,hc0]
  subst hA;simp only[a1,fD,n16,n16',w0,b1,b2,b3,go_sem,seval];rw[<-hH0,hR,<-aA.avc];refine aN (.inl rfl) (B:=(kb+17+1)*65536) (by rw[aA.av_eq p];rfl) (c340 h340 h337 h339 h342 arrs anl acl ev em env c0 _ H0 (by omega) (by omega) hv0 p hk (hkid hnr) x v0 hx hkl.1 hkl.2 hcn0 (h384 x (List.mem_of_getElem? hx))) ?_;rintro r h' ⟨q1,q2⟩;cases hE:mI arrs p (p.kids.map (evU arrs)) env c0 with
  |er e=>rw[hE]at q2;obtain⟨⟨m,rfl⟩,he,env',c',q4⟩:=q2;refine Wk ?_;exact⟨hkp.trans q1 (by omega),⟨_,rfl⟩,he,env',c',q4⟩
  |ok n c2=>rw[hE]at q2;obtain⟨rfl,q4⟩:=q2;refine Wk ?_;exact⟨hkp.trans q1 (by omega),rfl,q4⟩
 have m3:=aK b3;cases b4:decide (p.op.bs=[105,102])
 case true=>
  have m4:=aG b4;have hnr:decide (p.op.bs=[114,101,100,117,99,101])=false:=by rw[m4];rfl
  rw[bZ,if_neg m1,if_neg m2,if_neg m3,if_pos m4]at hnode;simp only[aD,aQ]at hnode;obtain⟨⟨_,vk⟩,va⟩:=hnode;obtain⟨l,hl⟩:∃l,p.at_.es=[l]:=by
   rcases hp:p.at_.es with _|⟨l,_|⟨y,z⟩⟩
   rw[hp]at va;simp at va;exact⟨l,rfl⟩;rw[hp]at va;simp at va;omega
  obtain⟨k0,k1,hkk⟩:∃k0 k1,p.kids=[k0,k1]:=by
   rcases hp:p.kids with _|⟨k0,_|⟨k1,_|⟨y,z⟩⟩⟩
   rw[hp]at vk;simp at vk;rw[hp]at vk;simp at vk;exact⟨k0,k1,rfl⟩;rw[hp]at vk;simp at vk;omega
  have hl0:p.at_.es[0]?=some l:=by rw[hl];rfl
  have hk0:p.kids[0]?=some k0:=by rw[hkk];rfl
  have hk1:p.kids[1]?=some k1:=by rw[hkk];rfl
  have hR:gP arrs p (p.kids.map (evU arrs)) env c=match gY env l with|none => .er 3|some n=>if 0<=n then evU arrs k0 env c0 else evU arrs k1 env c0:=by rw[gP,hN,if_neg m1,if_neg m2,if_neg m3,if_pos m4,hc0];simp only[ifN,DE,hl,hkk,List.map_cons,List.map_nil];rfl
  simp only[a1,fD,n16,n16',w0,b1,b2,b3,b4,hl0,go_sem,seval];rw[<-hH0,hR];refine aN (.inl rfl) (B:=(kb+21+1)*65536) (by rw[Lin.avc];rfl) (c339 h339 h337 ev em A env _ _ H0 (by omega) (by omega) hv0 l) ?_;rintro r h' ⟨q1,q2⟩;have hb2:=(q1 _ (by omega) (by omega) (by omega) (by omega)).trans hb';have hkp2:cT h h' kb:=hkp.trans q1 (by omega);cases hL:gY env l with
  |none=>rw[hL]at q2;obtain⟨⟨m,rfl⟩,he,env',c',q4⟩:=q2;have q4':=q4;obtain⟨vi3,bs3,ck3,b1',b2',b3'⟩:=q4;simp only[b1',fD,go_sem,seval];exact⟨hkp2,⟨_,rfl⟩,by decide,env',c',q4'⟩
  |some n=>
   rw[hL]at q2;obtain⟨rfl,q4⟩:=q2;have q4':=q4;obtain⟨vi3,bs3,ck3,b1',b2',b3'⟩:=q4;cases b5:decide (0<=n);have m5:=aK b5;simp only[b1',fD,b5,hb2,hk1,go_sem,seval];refine aN (.inl rfl) (B:=(kb+29+1)*65536) (by rw[aA.av_eq k1];rfl) (hkid hnr k1 (by rw[hkk];simp) ev em c0 _ h' (by omega) (by omega) hcn0 q4') ?_;rintro r h5 ⟨q5,q6⟩;cases hE:evU arrs k1 env c0 with
   |er e=>rw[hE]at q6;obtain⟨⟨m,rfl⟩,he,env',c',q4⟩:=q6;refine Wk ?_;rw[if_neg m5];exact⟨hkp2.trans q5 (by omega),⟨_,rfl⟩,he,env',c',q4⟩
   |ok z c2=>rw[hE]at q6;obtain⟨rfl,q4⟩:=q6;refine Wk ?_;rw[if_neg m5];exact⟨hkp2.trans q5 (by omega),rfl,q4⟩
   have m5:=aG b5;simp only[b1',fD,b5,hb2,hk0,go_sem,seval];refine aN (.inl rfl) (B:=(kb+25+1)*65536) (by rw[aA.av_eq k0];rfl) (hkid hnr k0 (by rw[hkk];simp) ev em c0 _ h' (by omega) (by omega) hcn0 q4') ?_;rintro r h5 ⟨q5,q6⟩;cases hE:evU arrs k0 env c0 with
   |er e=>rw[hE]at q6;obtain⟨⟨m,rfl⟩,he,env',c',q4⟩:=q6;refine Wk ?_;rw[if_pos m5];exact⟨hkp2.trans q5 (by omega),⟨_,rfl⟩,he,env',c',q4⟩
   |ok z c2=>rw[hE]at q6;obtain⟨rfl,q4⟩:=q6;refine Wk ?_;rw[if_pos m5];exact⟨hkp2.trans q5 (by omega),rfl,q4⟩
 have m4:=aK b4;cases b5:decide (p.op.bs=[114,101,100,117,99,101])
 case true=>
  have m5:=aG b5;rw[bZ,if_neg m1,if_neg m2,if_neg m3,if_neg m4,if_pos m5]at hnode;simp only[aD,aQ]at hnode;obtain⟨⟨⟨⟨⟨_,vk⟩,va⟩,_⟩,vn⟩,_⟩:=hnode;obtain⟨l,hl⟩:∃l,p.at_.es=[l]:=by
   rcases hp:p.at_.es with _|⟨l,_|⟨y,z⟩⟩
   rw[hp]at va;simp at va;exact⟨l,rfl⟩;rw[hp]at va;simp at va;omega
  obtain⟨k0,k1,hkk⟩:∃k0 k1,p.kids=[k0,k1]:=by
   rcases hp:p.kids with _|⟨k0,_|⟨k1,_|⟨y,z⟩⟩⟩
   rw[hp]at vk;simp at vk;rw[hp]at vk;simp at vk;exact⟨k0,k1,rfl⟩;rw[hp]at vk;simp at vk;omega
  have hno:∀v∈env,¬v.v.bs=p.name.bs:=by
   intro v hv e;have:jF (env.map (·.v)) p.name.bs=true:=by simp only[jF,List.any_map,List.any_eq_true];exact⟨v,hv,by simp[e]⟩
   rw[this]at vn;cases vn
  rw[b5,hkk]at hvk;simp only[cU,Bool.true_and,aD,Bool.and_true]at hvk;have e0:EvC pg arrs A k0 env:=ih k0 (by rw[hkk];simp) (hks k0 (by rw[hkk];simp)) env ⟨by simpa using hvk.1,hed,λv hv=>hrd v (lO (by rw[hkk];simp) hv)⟩;have e1:∀i:Int,0<=i->i<=1099511627776->EvC pg arrs A k1 (env++[⟨p.name,i⟩]):=by intro i _ _;refine ih k1 (by rw[hkk];simp) (hks k1 (by rw[hkk];simp)) _ ⟨by simpa using hvk.2,?_,λv hv=>hrd v (lO (by rw[hkk];simp) hv)⟩;simp only[lB,List.map_append,List.map_cons,List.map_nil,List.nodup_append,List.nodup_cons,List.not_mem_nil,not_false_eq_true,List.nodup_nil,and_self,true_and];refine⟨hed,?_⟩;intro a ha b hb;simp only[List.mem_singleton]at hb;subst hb;obtain⟨v,hv,rfl⟩:=List.mem_map.1 ha;exact hno v hv
  have hR:gP arrs p (p.kids.map (evU arrs)) env c=xH p (p.kids.map (evU arrs)) env c0:=by rw[gP,hN,if_neg m1,if_neg m2,if_neg m3,if_neg m4,if_pos m5,hc0]
  simp only[a1,fD,n16,n16',w0,b1,b2,b3,b4,b5,go_sem,seval];rw[<-hH0,hR,<-aA.avc];refine aN (.inl rfl) (B:=(kb+33+1)*65536) (by rw[aA.av_eq p];rfl) (c341 h341 h337 h339 h343 h315 arrs A ev em env c0 _ H0 (by omega) (by omega) hcn0 hv0 p k0 k1 hkk l hl hno e0 e1) ?_;rintro r h' ⟨q1,q2⟩;cases hE:xH p (p.kids.map (evU arrs)) env c0 with
  |er e=>rw[hE]at q2;obtain⟨⟨m,rfl⟩,he,env',c',q4⟩:=q2;refine Wk ?_;exact⟨hkp.trans q1 (by omega),⟨_,rfl⟩,he,env',c',q4⟩
  |ok n c2=>rw[hE]at q2;obtain⟨rfl,q4⟩:=q2;refine Wk ?_;exact⟨hkp.trans q1 (by omega),rfl,q4⟩
 have m5:=aK b5;have hR:gP arrs p (p.kids.map (evU arrs)) env c=CH p (p.kids.map (evU arrs)) env c0:=by rw[gP,hN,if_neg m1,if_neg m2,if_neg m3,if_neg m4,if_neg m5,hc0]
 simp only[a1,fD,n16,n16',w0,b1,b2,b3,b4,b5,go_sem,seval];rw[<-hH0,hR,<-aA.avc];refine aN (.inl rfl) (B:=(kb+37+1)*65536) (by rw[aA.av_eq p];rfl) (c342 h342 arrs ev em A env c0 _ H0 (by omega) (by omega) hcn0 hv0 p hk (hkid b5)) ?_;rintro v h1 ⟨q1,q2⟩;have hb2:=(q1 _ (by omega) (by omega) (by omega) (by omega)).trans hb';have hkp2:cT h h1 kb:=hkp.trans q1 (by omega);unfold CH;cases hE:hZ (p.kids.map (evU arrs)) env [] c0 with
 |er e=>
  rw[hE]at q2;obtain⟨he,env',c',q4⟩:=q2;have q4':=q4;obtain⟨vi3,bs3,ck3,b1',b2',b3'⟩:=q4;have hne:decide (e=0)=false:=by simp[he]
  simp only[b1',fD,hne,go_sem,seval];exact⟨hkp2,⟨_,rfl⟩,he,env',c',q4'⟩
 |ok xs c2=>
 rw[hE]at q2;obtain⟨hg,q4⟩:=q2;have q4':=q4;obtain⟨vi3,bs3,ck3,b1',b2',b3'⟩:=q4;have hxl:xs.length<=big:=by have:=tK hE;simp at this;omega
 cases b6:decide (p.op.bs=[99,111,100,101])
 case true=>
  have m6:=aG b6;simp only[b1',fD,hb2,b6,go_sem,seval];refine aN (.inl rfl) (B:=(kb+41+1)*65536) (CE hg (by omega)) (c343 h343 h337 h315 ev em A env c2 _ h1 (by omega) (by omega) q4' p.fn.nl p.fn.cl p.fn.es p.fn.ok v _ xs hg hxl) ?_;rintro r h' ⟨q5,q6⟩;cases hC:kU p.fn.es xs c2 with
  |er e=>rw[hC]at q6;obtain⟨⟨m,rfl⟩,he,env',c',q7⟩:=q6;refine Wk ?_;rw[if_pos m6];exact⟨hkp2.trans q5 (by omega),⟨_,rfl⟩,he,env',c',q7⟩
  |ok n c3=>rw[hC]at q6;obtain⟨rfl,q7⟩:=q6;refine Wk ?_;rw[if_pos m6];exact⟨hkp2.trans q5 (by omega),rfl,q7⟩
 have m6:=aK b6;obtain⟨n3,c3,keys,hsn,_⟩:=hg.snap1;simp only[b1',fD,hb2,b6,go_sem,seval];refine dU (h344 p.op.bs n3 c3 xs hxl) (dS rfl hsn) rfl rfl ?_;simp only[eQ,go_sem,seval];cases b7:eS p.op.bs xs
 case false=>refine Wk ?_;refine aN (.inl rfl) (B:=(kb+49+1)*65536) rfl (c337 h337 ev em A env c2 _ h1 (by omega) q4' 12 (by decide)) ?_;rintro r h' ⟨q5,⟨m,rfl⟩,q3,env',c',q7⟩;simp only[b7,go_sem,seval];rw[if_neg m6];exact⟨hkp2.trans q5 (by omega),⟨m,rfl⟩,by decide,env',c',q7⟩
 simp only[b1',fD,b7,go_sem,seval];rw[if_neg m6];refine⟨λq h1 h2 h3 h4=>?_,rfl,vi3,bs3,ck3,by rw[aB,if_pos rfl];rfl,?_,b3'.mono (λq h1 h2=>?_)⟩;rw[aB,if_neg (Ne.symm h2)];exact hkp2 q h1 h2 h3 h4;rw[aB,if_neg (by decide)];exact b2';rw[aB,if_neg (by omega)]
end
end
section
def oY(a:AV)(c:Cn)(vi:AV):Ob:=.blk [a,.int .i64 c.rd,.int .i64 0,.int .i64 c.ops,.int .i64 0,vi,.int .i64 c.wk] 7 true true false
def IY(h:Hp)(v:AV)(es:List Int):Prop:=∃k,Own h k 1 false v (es.map aE)/\65536<=k/\((k % 32768=5\/k % 32768=9)/\k / 65536 % 65536=26)
theorem IY.mono{h h':Hp}{v:AV}{es:List Int}(o:IY h v es)(hk:∀q,65536<=q->((q % 32768=5\/q % 32768=9)/\q / 65536 % 65536=26)->h'.get q=h.get q):IY h' v es:=by obtain⟨k,g,h1,h2⟩:=o;exact⟨k,g.mono (hk k h1 h2),h1,h2⟩
def Rn(er:Nat)(a:AV)(c:Cn)(h:Hp):Prop:=∃vi,h.get 29=some (er,oY a c vi)/\IY h vi (eE [] c.vi)
def cY(h h':Hp)(kb:Nat):Prop:=∀q,q<kb->q≠29->¬((q % 32768=5\/q % 32768=9)/\q / 65536 % 65536=26)->h'.get q=h.get q
theorem cY.refl(h:Hp)(kb:Nat):cY h h kb:=λ_ _ _ _=>rfl
theorem cY.trans{h h' h'':Hp}{kb kb':Nat}(a:cY h h' kb)(b:cY h' h'' kb')(hk:kb<=kb'):cY h h'' kb:=λq h1 h2 h3=>(b q (by omega) h2 h3).trans (a q h1 h2 h3)
def RnP(er:Nat)(a:AV)(h:Hp)(kb:Nat)(o:Rs)(r:AV)(h':Hp):Prop:=
 cY h h' kb/\match o with
 |.ok n c=>r = .tup [.int .i64 n,.int .i64 0]/\Rn er a c h'
 |.er e=>e≠0/\∃n,r = .tup [.int .i64 n,.int .i64 e]
def jU(h:Hp)(kb:Nat)(w:AV)(env:List Val):Prop:=
 (∃nl cl,w = .sl nl (env.map Val.av) cl)\/(∃k e cs,w = .rf k e 0 env.length env.length/\k<kb/\k≠29/\¬((k % 32768=5\/k % 32768=9)/\k / 65536 % 65536=26)/\aR 2 true (env.map Val.av)=some cs/\h.get k=some (e,.blk cs 2 true false false))
theorem El.vals(l:List Val):∀x∈l.map Val.av,El 2 true x:=by intro x hx;simp only[List.mem_map]at hx;obtain⟨y,_,rfl⟩:=hx;exact⟨rfl,rfl,rfl⟩
theorem jU.mono{h h':Hp}{kb kb':Nat}{w:AV}{env:List Val}(g:jU h kb w env)(hk:cY h h' kb)(hl:kb<=kb'):jU h' kb' w env:=by
 rcases g with g|⟨k,e,cs,rfl,h1,h2,h29,h3,h4⟩
 exact .inl g;exact .inr ⟨k,e,cs,rfl,by omega,h2,h29,h3,(hk k h1 h2 h29).trans h4⟩
theorem jU.snap1{h:Hp}{kb:Nat}{w:AV}{env:List Val}(g:jU h kb w env):∃nl cl keys,mapS (Tev.snap depth h) [w]=some ([.sl nl (env.map Val.av) cl],keys):=by
 have ht:treeL (env.map Val.av)=true:=bG (f:=Val.av) (λ_=>rfl) env;rcases g with ⟨nl,cl,rfl⟩|⟨k,e,cs,rfl,h1,h2,h29,h3,h4⟩
 refine⟨nl,cl,[],dK 63 h ?_⟩;simp only[treeL,AV.tree,ht,Bool.and_self];obtain⟨cs',c1,c2,c3,c4⟩:=bT (El.vals env);rw[h3]at c1;cases c1;have c5:iR 2 true env.length cs=some (env.map Val.av):=by simpa using c4 []
 refine⟨false,false&&env.length==env.length,[k],?_⟩;have hs:Tev.snap depth h (.rf k e 0 env.length env.length)=some (.sl false (env.map Val.av) (false&&env.length==env.length),[k]):=by show Tev.snap (63+1) h _=_;unfold Tev.snap;simp only[AV.tree,Bool.false_eq_true,if_false,h4,if_true,List.drop_zero,c5,dK 62 h ht,Option.map_some]
 rw[cA,hs,fY];rfl
theorem jS{h:Hp}{kb s:Nat}{w a b:AV}{env:List Val}(g:jU h kb w env)(ha:∃k e o,a = .pt k e o)(hb:b.isAgg=true):dQ kb s [a,b,w]=(kb+s+1)*65536:=by
 obtain⟨k1,e1,o1,rfl⟩:=ha;obtain⟨c,rfl⟩:∃c,b = .agg c:=by cases b<;>simp[AV.isAgg]at hb;exact⟨_,rfl⟩
 rcases g with ⟨nl,cl,rfl⟩|⟨k,e,cs,rfl,h1,h2,h29,h3,h4⟩
 rfl;have h5:decide ((kb+s+1)*65536<=k)=false:=by simp;omega
 simp[dQ,h5]
section
variable{pg:Pg}{kb:Nat}
theorem X2{h:Hp}{v:AV}{l:List Int}{x:Int}{Q:AV->Eff->Prop}{t:Tok Q}(hf:pg.fs 55=some rJ)(hkb:kb % 65536=0)(o:IY h v l)(hb:l.length<big)
  (q:∀r h',IY h' r (fC x l)->(∀k,k<(kb+25+1)*65536->¬((k % 32768=5\/k % 32768=9)/\k / 65536 % 65536=26)->h'.get k=h.get k)->Q r (.whole h')):XO pg kb (.call 55 false true) 25 h [v,.int .i64 x] Q t:=by
 obtain⟨k1,o,o1,o2⟩:=o;obtain⟨B,hB,hB1,hB2⟩:∃B,dQ kb 25 [v,.int .i64 x]=B/\(B=(kb+25+1)*65536\/B=(kb+25+1)*65536+32768)/\∀k e o l c,v = .rf k e o l c->k≠B+1/\k≠B+5/\k≠B+9:=by refine⟨_,rfl,?_,?_⟩;simp only[dQ];split;exact .inr rfl;exact .inl rfl;rintro k e o l c rfl;simp only[dQ,List.any_cons,List.any_nil,Bool.or_false];split;rename_i h;simp only[aD,aQ]at h;omega;rename_i h;simp only[aD,aQ,not_and]at h;omega
 have key:∃k1,Own h k1 1 false v (l.map aE)/\k1≠B+1/\k1≠B+5/\k1≠B+9/\65536<=k1/\((k1 % 32768=5\/k1 % 32768=9)/\k1 / 65536 % 65536=26):=by
  rcases o with ⟨he,nl,cl,rfl,hc⟩|⟨e,cs,rfl,hg,hu⟩
  obtain⟨m,rfl⟩:∃m,kb=m*65536:=⟨kb / 65536,by omega⟩
  rcases hB1 with h1|h1;exact⟨(m*65536+25+1)*65536+32768+9,.inl ⟨he,nl,cl,rfl,hc⟩,by omega,by omega,by omega,by omega,by clear hB2 q hB h1;omega⟩;exact⟨(m*65536+25+1)*65536+9,.inl ⟨he,nl,cl,rfl,hc⟩,by omega,by omega,by omega,by omega,by clear hB2 q hB h1;omega⟩;obtain⟨z1,z2,z3⟩:=hB2 _ _ _ _ _ rfl;exact⟨k1,.inr ⟨e,cs,rfl,hg,hu⟩,z1,z2,z3,o1,o2⟩
 obtain⟨k1',o',a1,a5,a9,a11,a10⟩:=key;refine aN (.inl rfl) hB (aGU hf o' hb x a1 a5 a9) ?_;rintro r h' ⟨k2,p1,p2,p3⟩;clear hB2 hB;obtain⟨m,rfl⟩:∃m,kb=m*65536:=⟨kb / 65536,by omega⟩
 have m5:∀y:Nat,y<65536->((m*65536+25+1)*65536+y) / 65536 % 65536=26      :=by intro y hy;rw[Nat.mul_comm,Nat.mul_add_div (by decide),Nat.div_eq_of_lt hy,Nat.add_zero,Nat.mul_comm,Nat.mul_add_mod]
 have hB5:∀y,y<32768->(B+y) / 65536 % 65536=26/\(m*65536+25+1)*65536<=B+y/\(B+y) % 32768=y:=by intro y hy;rcases hB1 with rfl|rfl;exact⟨m5 y (by omega),Nat.le_add_right _ _,by rw[show (m*65536+25+1)*65536=32768*((m*65536+25+1)*2) by rw[Nat.mul_comm,show (65536:Nat)=32768*2 from rfl,Nat.mul_assoc,Nat.mul_comm 2],Nat.mul_add_mod,Nat.mod_eq_of_lt hy]⟩;have:=m5 (32768+y) (by omega);rw[<-Nat.add_assoc]at this;exact⟨this,by generalize (m*65536+25+1)*65536=Z;omega,by rw[show (m*65536+25+1)*65536+32768=32768*((m*65536+25+1)*2+1) by rw[Nat.mul_add,Nat.mul_one,Nat.mul_comm (m*65536+25+1) 2,<-Nat.mul_assoc,Nat.mul_comm],Nat.mul_add_mod,Nat.mod_eq_of_lt hy]⟩
 obtain⟨b1,b2,b3⟩:=hB5 1 (by omega);obtain⟨b4,b5,b6⟩:=hB5 5 (by omega);obtain⟨b7,b8,b9⟩:=hB5 9 (by omega);refine q r h' ⟨k2,p1,?_,?_⟩ (λk h1 h2=>p3 k (by omega) (by omega) (by omega));rcases p2 with rfl|rfl|rfl<;>omega;rcases p2 with rfl|rfl|rfl;exact a10;exact⟨.inl b6,b4⟩;exact⟨.inr b9,b7⟩
end
section
variable{pg:Pg}
theorem JI{fn:List aH}{n:Int}(h:bQ n fn=true):∀s∈fn,(fK s.op.bs).isSome = !iQ s:=by
 intro s hs;obtain⟨d,r,rfl⟩:=List.append_of_mem hs;have hx:=nM h rfl;unfold iQ;cases b1:decide (s.op.bs=[99,111,110,115,116]);cases b2:decide (s.op.bs=[116,114,117,116,104]);rw[fF,if_neg (aK b1),if_neg (aK b2)]at hx;cases hp:fK s.op.bs with
 |none=>rw[hp]at hx;cases hx
 |some p=>rfl
 rw[aG b2];rfl;rw[aG b1];rfl
set_option maxRecDepth 100000 in
theorem c953(hf:pg.fs 953=some G9)(h959:∀op,Ret pg 959 [.str op] (.bool (fK op).isSome))(h958:∀nl cl (fn:List aH),fn.length<=big->∀nl' cl' (xs:List Int),xs.length<=big->Ret pg 958 [.sl nl (fn.map aH.av) cl,.sl nl' (xs.map aE) cl'] (oH fn xs))
  (er:Nat) (a:AV) (c:Cn) (kb:Nat) (h:Hp) (hkb:65536<=kb) (hv:Rn er a c h) (nl cl:Bool) (fn:List aH) (hb:fn.length<=big) (v:AV) (k:Nat) (xs:List Int) (hg:Gr h k v xs) (hx:xs.length<=big) :
  cL pg 953 [.pt 29 er 0,.sl nl (fn.map aH.av) cl,v] kb h (RnP er a h kb (kU fn xs c)):=by
 refine cL.ofX hf ?_;unfold G9;obtain⟨n3,c3,keys,hsn,hkeys⟩:=hg.snap1;have ht:(AV.sl nl (fn.map aH.av) cl).tree=true:=by simp only[go_sem,seval]
 refine Wk ?_;refine dU (h958 nl cl fn hb n3 c3 xs hx) (dS ht hsn) rfl rfl ?_;simp only[oH,go_sem,seval];cases hB:lX fn xs
 case false=>simp only[kU,hB,go_sem,seval];exact⟨cY.refl h kb,by decide,0,rfl⟩
 have hst:bQ xs.length fn=true:=by simp only[lX,bK,aD]at hB;exact hB.1.2
 have hlit:=JI hst;refine Wk ?_
 refine aM fn (λd r e hp=>∃o,e=DV (.pt 29 er 0) (.sl nl (fn.map aH.av) cl) (.int .i64 (F2 fn xs)) (.int .i64 d.length) /\
  Rn er a {c with ops:=o} hp/\cY h hp kb/\vS fn c.ops=vS r o) ?_ ?_ ?_
 exact⟨c.ops,rfl,hv,cY.refl _ _,rfl⟩;rintro e hp ⟨o,rfl,hv,hkp,hI⟩;have hI:vS fn c.ops=o:=hI;simp only[DU,DV,aY,kU,hB,go_sem,seval];exact⟨hkp,rfl,by rw[hI];exact hv⟩;rintro d x r e hp hes ⟨o,rfl,hv,hkp,hI⟩;obtain⟨hget,e1,e2,ew⟩:=cG hes hb;have hl:=hlit x (by rw[hes];simp);simp only[DU,DV,e1,e2,hget,go_sem,seval];refine aC (h959 x.op.bs) ?_;cases hL:iQ x;rw[hL]at hl;obtain⟨vi,a1,a2⟩:=hv;simp only[hl,a1,oY,ew,go_sem,seval];refine⟨wr .i64 (o+1),rfl,⟨vi,by rw[aB,if_pos rfl];rfl,a2.mono (λq h1 h2=>by rw[aB,if_neg (by omega)])⟩,?_,by rw[hI];simp[vS,hL]⟩;intro q h1 h2 h3;rw[aB,if_neg (Ne.symm h2)];exact hkp q h1 h2 h3;rw[hL]at hl;simp only[hl,ew,go_sem,seval];exact⟨o,rfl,hv,hkp,by rw[hI];simp[vS,hL]⟩
end
end
end Go.Tev
