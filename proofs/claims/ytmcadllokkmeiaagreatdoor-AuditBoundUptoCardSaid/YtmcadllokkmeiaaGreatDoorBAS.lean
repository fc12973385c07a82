import Derived.Test.YtmcadllokkmeiaaGreatDoorBAR
set_option linter.all false
namespace Go.Tev
section
def wG(op:List UInt8):Bool:=decide (op=[108,116])||decide (op=[108,101])||decide (op=[103,116])||decide (op=[103,101])||decide (op=[101,113])||decide (op=[110,101])
def aBv:List Bool->Bool
 |[_,b,c]=>b&&c
 |_=>false
def gX(op:List UInt8)(aSj:List Bool):Bool:=
 if wG op then decide ((aSj.length:Int)=2)
 else if decide (op=[115,101,108,101,99,116]) then aBv aSj
 else match kK op with
  |none=>false
  |some p=>decide (p.result=[98,111,111,108])&&decide ((p.params.length:Int)=(aSj.length:Int)) && !aSj.any (λb=>b==false)
theorem El.bools(l:List Bool):∀x∈l.map AV.bool,El 1 false x:=by intro x hx;simp only[List.mem_map]at hx;obtain⟨y,_,rfl⟩:=hx;exact⟨rfl,rfl,rfl⟩
theorem oS(l:List Bool):Tev.treeL (l.map AV.bool)=true:=cH (f:=AV.bool) (λ_=>rfl) l
theorem E4(l:List (List UInt8)):Tev.treeL (l.map AV.str)=true:=cH (f:=AV.str) (λ_=>rfl) l
attribute [go_sem] oS E4
section
variable{pg:Pg}
theorem c178(hf:pg.fs 178=some J8)(nl cl:Bool)(es:List Bool)(hb:es.length<=big)(v:Bool) :
  bQ pg 178 [.sl nl (es.map AV.bool) cl,.bool v] (λr=>∃i:Int,r = .int .i64 i/\decide (0<=i)=es.any (λb=>v==b)):=
 LM (f:=178) (k:=.beq false) hf AV.bool (λ_=>rfl) nl cl es hb (.bool v) (λb=>v==b) (by intro kb s h x Q t;simp only[go_sem,seval])
theorem c141(hf:pg.fs 141=some R1)(h178:pg.fs 178=some J8)(nl cl:Bool)(es:List Bool)(hb:es.length<=big)(v:Bool) :
  Ret pg 141 [.sl nl (es.map AV.bool) cl,.bool v] (.bool (es.any (λb=>v==b))):=
 rO (n:=178) hf (by simp only[treeL,qY,IB,oS,fF]) (c178 h178 nl cl es hb v)
set_option maxHeartbeats 1000000 in
theorem c102(hf:pg.fs 102=some SG)(h140:∀op,bQ pg 140 [.str op] (kV op))(h141:pg.fs 141=some R1)(h178:pg.fs 178=some J8)(op:List UInt8)(nl cl:Bool)(aSj:List Bool)(hb:aSj.length<=big) :
  Ret pg 102 [.str op,.sl nl (aSj.map AV.bool) cl] (.bool (gX op aSj)):=by
 have k1:=c141 h141 h178 nl cl aSj hb false;refine Ret.ofX hf ?_;unfold SG;cases hc:wG op
 case true=>
  have hs:gX op aSj=decide ((aSj.length:Int)=2):=by simp[gX,hc]
  rw[hs];clear h140 h141 h178 k1
  repeat' (first|simp only[*,go_sem,seval]|refine bB (λ_=>?_) (λ_=>?_)|refine bD (λ_=>?_) (λ_=>?_)|refine aY ?_)
  all_goals (exfalso;simp_all [wG])
 simp only[wG,Bool.or_eq_false_iff]at hc;obtain⟨⟨⟨⟨⟨q1,q2⟩,q3⟩,q4⟩,q5⟩,q6⟩:=hc;cases hsel:decide (op=[115,101,108,101,99,116])
 case true=>
  have hs:gX op aSj=aBv aSj:=by unfold gX;rw[if_neg (by simp only[wG,q1,q2,q3,q4,q5,q6];decide),if_pos hsel]
  rw[hs];clear h140 h141 h178 k1
  match aSj,hb with
  |[],_=>
   repeat' (first|simp only[*,go_sem,seval]|refine bB (λ_=>?_) (λ_=>?_)|refine bD (λ_=>?_) (λ_=>?_)|refine aY ?_)
   all_goals rfl
  |[a],_=>
   repeat' (first|simp only[*,go_sem,seval]|refine bB (λ_=>?_) (λ_=>?_)|refine bD (λ_=>?_) (λ_=>?_)|refine aY ?_)
   all_goals rfl
  |[a,b],_=>
   repeat' (first|simp only[*,go_sem,seval]|refine bB (λ_=>?_) (λ_=>?_)|refine bD (λ_=>?_) (λ_=>?_)|refine aY ?_)
   all_goals rfl
  |[a,b,c],_=>
   have e3:(((3:Nat):Int))=3:=rfl;have t1:(1:Int).toNat=1:=rfl;have t2:(2:Int).toNat=2:=rfl;have z1:((0:Int)<=1)=True:=by simp
   have z2:((0:Int)<=2)=True:=by simp
   repeat' (first|simp only[*,go_sem,seval]|refine bB (λ_=>?_) (λ_=>?_)|refine bD (λ_=>?_) (λ_=>?_)|refine aY ?_)
   all_goals (simp_all [aBv])
  |a::b::c::d::r,hb=>
   have h3:decide (((((r.length+1+1+1+1):Nat):Int))=3)=false:=by simp;omega
   repeat' (first|simp only[*,go_sem,seval]|refine bB (λ_=>?_) (λ_=>?_)|refine bD (λ_=>?_) (λ_=>?_)|refine aY ?_)
   all_goals rfl
 have hspec:gX op aSj=match kK op with
  |none=>false
  |some p=>decide (p.result=[98,111,111,108])&&decide ((p.params.length:Int)=(aSj.length:Int)) && !aSj.any (λb=>b==false):=by
  unfold gX;rw[if_neg (by simp only[wG,q1,q2,q3,q4,q5,q6];decide),if_neg (by rw[hsel];decide)]
 obtain⟨r,hr,hP⟩:=h140 op;clear h140 h141 h178;generalize gX op aSj=res at hspec ⊢
 obtain⟨nl',cl',ps,rs,ok,rfl,hres⟩:∃nl cl,∃ps:List (List UInt8),∃rs ok,r = .tup [.sl nl (ps.map .str) cl,.str rs,.bool ok]/\res=(ok&&decide (rs=[98,111,111,108])&&decide ((ps.length:Int)=(aSj.length:Int)) && !aSj.any (λb=>b==false)):=by
  unfold kV at hP;cases hp:kK op with
  |none=>rw[hp]at hP hspec;exact⟨_,_,[],_,_,hP,by simp[hspec]⟩
  |some q=>rw[hp]at hP hspec;obtain⟨nl,cl,hP⟩:=hP;exact⟨_,_,q.params,_,_,hP,by simp[hspec]⟩
 clear hP hspec;have htr:treeL (ps.map AV.str)=true:=E4 ps;have htk:=oS aSj
 repeat' (first|simp only[*,go_sem,seval]|refine bB (λ_=>?_) (λ_=>?_)|refine bD (λ_=>?_) (λ_=>?_)|(refine aB hr ?_)|(refine aB k1 ?_)|refine aY ?_)
 all_goals (clear hr k1 htr htk)
 all_goals (simp_all)
def uC(op:List UInt8):Bool:=decide (op=[99,111,110,115,116])||decide (op=[116,114,117,116,104])
def oV(l:List Bool)(a:Int):Bool:=decide (0<=a)&&(decide (a<(l.length:Int))&&(l[a.toNat]?).getD false)
def oU(l:List Bool)(s:aP):Bool:=if uC s.op.bs then decide (s.num=0)||decide (s.num=1) else gX s.op.bs (s.args.es.map (oV l))
def oJ(l:List Bool):List aP->List Bool
 |[]=>l
 |s::r=>oJ (l++[oU l s]) r
def fD(code:List aP)(args:List Bool):Bool:=(oJ args code).getLast?.getD false
theorem c103(hf:pg.fs 103=some KK)(nl cl:Bool)(es:List AV)(hel:∀x∈es,El 1 false x)(hb:es.length<=big)(hnl:nl=true->es=[]):bQ pg 103 [.sl nl es cl] (pA 1 false es):=by refine bQ.ofX hf ?_;unfold KK;refine Wk ?_;cases nl;refine Wk ?_;refine gR (kb:=0) (s:=1) (bytes:=1) (es:=[]) (xs:=es) (Own.nil _ _ _ _ _ _ rfl) (by simp) hel ?_ (by decide) ?_;simp only[List.length_nil,big]at *;omega;intro v' rd pa ho hk hpa;refine Wk ?_;exact ho.conv (by simpa using hel);refine Wk ?_;exact .inl ⟨hnl rfl,true,true,rfl,rfl⟩
def CO(h:Hp)(ks:List Nat)(v:AV)(es:List Bool):Prop:=∃k∈ks,Own h k 1 false v (es.map AV.bool)
theorem CO.mono{h h':Hp}{ks:List Nat}{v:AV}{es:List Bool}(o:CO h ks v es)(hh:∀k∈ks,h'.get k=h.get k):CO h' ks v es:=by obtain⟨k,hk,o⟩:=o;exact⟨k,hk,o.mono (hh k hk)⟩
theorem eP:∀(l:List Bool),cK 1 false (l.map AV.bool)=some (l.map AV.bool)
 |[]=>rfl
 |x::r=>by have ih:=eP r;rw[List.map_cons,cK,ih];rfl
theorem CO.at{h:Hp}{ks:List Nat}{v:AV}{es:List Bool}(o:CO h ks v es){n:Int}(h0:0<=n)(h1:n<es.length):∃k e,v = .rf k e 0 es.length es.length/\h.get k=some (e,.blk (es.map AV.bool) 1 false false false)/\k∈ks:=by
 obtain⟨k,hk,⟨he,nl,cl,rfl,hc⟩|⟨e,cs,rfl,hg,hu⟩⟩:=o;have:es=[]:=by simpa using he
 subst this;simp at h1;omega;rw[eP]at hu;cases hu;exact⟨k,e,by simp,hg,hk⟩
theorem CO.len{h:Hp}{ks:List Nat}{v:AV}{es:List Bool}(o:CO h ks v es)(kb s:Nat)(h':Hp)(Q:AV->Eff->Prop)(t:Tok Q):XO pg kb (.len 1) s h' [v] Q t=Q (.int .i64 es.length) (.pat [] []):=by
 obtain⟨k,hk,⟨he,nl,cl,rfl,hc⟩|⟨e,cs,rfl,hg,hu⟩⟩:=o;have:es=[]:=by simpa using he
 subst this;simp only[go_sem,seval];rw[aM];simp only[go_sem,seval]
theorem CO.flen{h:Hp}{ks:List Nat}{v:AV}{es:List Bool}(o:CO h ks v es)(h':Hp):QM h' 1 [v]=some (.int .i64 es.length,.pat [] []):=by
 obtain⟨k,hk,⟨he,nl,cl,rfl,hc⟩|⟨e,cs,rfl,hg,hu⟩⟩:=o;have:es=[]:=by simpa using he
 subst this;rfl;rw[aM];rfl
theorem sT{h:Hp}{d:Nat}{a b b':AV}{keys:List Nat}(ha:a.tree=true)(hb:Tev.snap (d+1) h b=some (b',keys)):eN (Tev.snap (d+1) h) [a,b]=some ([a,b'],keys):=by simp[bM,cW,pN ha,hb]
theorem c64(hf:pg.fs 64=some aDF)(h103:pg.fs 103=some KK)(h102:∀(op:List UInt8) (nl cl:Bool) (aSj:List Bool),aSj.length<=big->Ret pg 102 [.str op,.sl nl (aSj.map AV.bool) cl] (.bool (gX op aSj)))
  (nl cl:Bool) (code:List aP) (hb:code.length<=16777216) (nl' cl':Bool) (args:List Bool) (hb':args.length<=16777216) (hnl:nl'=true->args=[]):Ret pg 64 [.sl nl (code.map aP.av) cl,.sl nl' (args.map AV.bool) cl'] (.bool (fD code args)):=by
 refine Ret.ofX hf ?_;unfold aDF;refine Wk ?_;refine CL (c103 h103 nl' cl' (args.map AV.bool) (El.bools args) (by simp[big];omega) (by intro h;simp[hnl h])) (by simp only[go_sem,seval]) (El.bools args) ?_;intro v0 rd pa ho0 hk0 _;refine Wk ?_;refine aJ code (λd r env hp=>∃v l,env=wS v (.sl nl (code.map aP.av) cl) (.int .i64 code.length) (.int .i64 d.length)/\CO hp [1,9,21] v l/\l.length=args.length+d.length/\oJ args code=oJ l r) ?_ ?_ ?_;exact⟨v0,args,rfl,⟨1,by simp,ho0⟩,by simp,rfl⟩;rintro env hp ⟨v,l,rfl,ho,hl,hI⟩;have hlen:=ho.flen;have hll:∀(l':List Bool)(b:Bool),(l'.length:Int)<((l'++[b]).length:Int):=by intro l' b;rw[dC,List.length_singleton];omega
 simp only[oJ]at hI;have hsp:fD code args=l.getLast?.getD false:=by rw[fD,hI]
 rw[hsp];rcases mO l with rfl|⟨l',b,rfl⟩
 simp only[wR,wS,↓hlen,go_sem,seval];rfl;rw[List.concat_eq_append]at *;obtain⟨k,e,rfl,hg,_⟩:=ho.at (n:=(l'.length:Int)) (by omega) (hll l' b);have hw:wr .i64 (((l'++[b]).length:Int)-1)=(l'.length:Int):=by simp only[dC,List.length_cons,List.length_nil]at *;rw[aU (by omega) (by omega)];omega
 have hlt:decide ((0:Int)<((l'++[b]).length:Int))=true:=by have:=hll l' b;simp only[aR];omega
 have hlt2:((l'.length:Int)<((l'++[b]).length:Int))=True:=aK (hll l' b);have hgm:((l'++[b]).map AV.bool)[l'.length]?=some (.bool b):=by simp
 simp only[wR,wS,↓hlen,hlt,hw,hlt2,Nat.mul_one,bF,hg,go_sem,seval];simp;rintro d x r env hp hes ⟨v,l,rfl,ho,hl,hI⟩;subst hes;have hks:∀k∈([1,9,21]:List Nat),k=1\/k=9\/k=21:=by simp
 have hd:d.length<=16777216:=by simp at hb;omega
 have hb2:(d++x::r).length<=big:=by simp only[big];omega
 simp only[oJ]at hI;cases hc:uC x.op.bs
 case true=>
  have hst:oU l x=(decide (x.num=0)||decide (x.num=1)):=by simp[oU,hc]
  have hfin:∀(hp':Hp)(c:Bool),(∀k,k≠5->hp'.get k=hp.get k)->c=oU l x->∀(Q:AV->Eff->Prop)(t:Tok Q),
    (∀v' rd pa,CO (Eff.app hp' (.pat rd pa)) [1,9,21] v' (l++[oU l x])->Q v' (.pat rd pa))->XO pg 0 (.app 1 false 1) 9 hp' [v,.sl false [.bool c] true] Q t:=by
   intro hp' c hk hcc Q t hq;obtain⟨k,hkm,ho'⟩:=ho;refine uW (kb:=0) (s:=9) (k1:=k) (ho'.mono (hk k (by rcases hks k hkm with h|h|h<;>omega))) (El.bools l) (xs:=[.bool c]) (by intro y hy;simp at hy;subst hy;exact El.bool _) (by simp) (by simp;omega) (by omega) ?_;intro v' rd pa ho2 _;exact hq v' rd pa ⟨9,by simp,by simpa[hcc] using ho2⟩
  have hgp:∀o1 o2 k,k≠5->((hp.put 5 (hp.next 5) o1).put 5 (hp.next 5) o2).get k=hp.get k:=by intro o1 o2 k hk;rw[aI,if_neg (Ne.symm hk),aI,if_neg (Ne.symm hk)]
  have hor:decide (x.op.bs=[99,111,110,115,116])=true\/(decide (x.op.bs=[99,111,110,115,116])=false/\decide (x.op.bs=[116,114,117,116,104])=true):=by unfold uC at hc;cases h1:decide (x.op.bs=[99,111,110,115,116]);rw[h1]at hc;exact .inr ⟨rfl,by simpa using hc⟩;exact .inl rfl
  rcases hor with c1|⟨c1,c2⟩
  cases c3:decide (x.num=0);simp only[wR,wS,c1,c3,go_sem,seval];refine hfin _ _ (hgp _ _) (by rw[hst,c3];rfl) _ _ ?_;intro v' rd pa ho2;simp only[aZ hb2,go_sem,seval];exact⟨v',_,rfl,ho2,by simp;omega,hI⟩;simp only[wR,wS,c1,c3,go_sem,seval];refine hfin _ _ (hgp _ _) (by rw[hst,c3];rfl) _ _ ?_;intro v' rd pa ho2;simp only[aZ hb2,go_sem,seval];exact⟨v',_,rfl,ho2,by simp;omega,hI⟩;cases c3:decide (x.num=0);simp only[wR,wS,c1,c2,c3,go_sem,seval];refine hfin _ _ (hgp _ _) (by rw[hst,c3];rfl) _ _ ?_;intro v' rd pa ho2;simp only[aZ hb2,go_sem,seval];exact⟨v',_,rfl,ho2,by simp;omega,hI⟩;simp only[wR,wS,c1,c2,c3,go_sem,seval];refine hfin _ _ (hgp _ _) (by rw[hst,c3];rfl) _ _ ?_;intro v' rd pa ho2;simp only[aZ hb2,go_sem,seval];exact⟨v',_,rfl,ho2,by simp;omega,hI⟩
 have hst:oU l x=gX x.op.bs (x.args.es.map (oV l)):=by simp[oU,hc]
 simp only[uC,Bool.or_eq_false_iff]at hc;obtain⟨c1,c2⟩:=hc;have hxl:=x.args.ok;simp only[wR,wS,c1,c2,go_sem,seval];have hlen:=ho.flen;have hll:(l.length:Int)<=33554432:=by simp only[dC,List.length_cons]at hb;omega
 have hgp:∀o1 o2 k,k≠5->((hp.put 5 (hp.next 5) o1).put 5 (hp.next 5) o2).get k=hp.get k:=by intro o1 o2 k hk;rw[aI,if_neg (Ne.symm hk),aI,if_neg (Ne.symm hk)]
 have hg5:∀o1 o2,((hp.put 5 (hp.next 5) o1).put 5 (hp.next 5) o2).get 5=some (hp.next 5,o2):=by intro o1 o2;rw[aI,if_pos rfl]
 generalize hH:(hp.put 5 (hp.next 5) (Ob.blk [AV.str [],AV.int IntKind.i64 0,AV.sl true [] true] 3 true true false)).put 5 (hp.next 5) (Ob.blk [AV.str x.op.bs,AV.int IntKind.i64 x.num,AV.sl x.args.nl (List.map aH x.args.es) x.args.cl] 3 true true false)=H;have hH5:H.get 5=some (hp.next 5,Ob.blk [AV.str x.op.bs,AV.int IntKind.i64 x.num,AV.sl x.args.nl (List.map aH x.args.es) x.args.cl] 3 true true false):=by rw[<-hH];exact hg5 _ _
 have hHk:∀k,k≠5->H.get k=hp.get k:=by intro k hk;rw[<-hH];exact hgp _ _ k hk
 clear hgp hg5 hH
 refine aJ x.args.es (λd2 r2 env hp'=>∃v8,env=G3 v (.pt 5 (hp.next 5) 0) v8 (.sl nl ((d++x::r).map aP.av) cl) (.int .i64 (d++x::r).length) (.int .i64 d.length) (.sl x.args.nl (x.args.es.map aH) x.args.cl) (.int .i64 x.args.es.length) (.int .i64 d2.length) /\
  Own hp' 13 1 false v8 ((d2.map (oV l)).map AV.bool)/\∀k,k≠13->hp'.get k=H.get k) ?_ ?_ ?_
 exact⟨_,rfl,Own.nil _ _ _ _ _ _ rfl,λ_ _=>rfl⟩;rintro env hp' ⟨v8,rfl,ho8,hfr⟩;have hg5:=(hfr 5 (by omega)).trans hH5;simp only[G2,G3,hg5,go_sem,seval];obtain⟨nl8,cl8,keys,hsn,hnl8⟩:=ho8.snap (El.bools _) 62;have h2:=h102 x.op.bs nl8 cl8 (x.args.es.map (oV l)) (by simpa using hxl);rw[<-hst]at h2;refine cR h2 (sT (by simp only[go_sem,seval]) hsn) (v:=.bool (oU l x)) (pa:=[]) rfl (Wk ?_);obtain⟨k,hkm,ho'⟩:=ho;have hk13:k≠13/\k≠5:=by rcases hks k hkm with h|h|h<;>omega
 refine uW (kb:=0) (s:=21) (k1:=k) (ho'.mono ?_) (El.bools l) (xs:=[.bool (oU l x)]) (by intro y hy;simp at hy;subst hy;exact El.bool _) (by simp) (by simp;omega) (by omega) ?_;rw[hfr k hk13.1,hHk k hk13.2];intro v' rd pa ho2 _;simp only[aZ hb2,go_sem,seval];exact⟨v',_,rfl,⟨21,by simp,by simpa using ho2⟩,by simp;omega,hI⟩;rintro d2 a r2 env hp' hes ⟨v8,rfl,ho8,hfr⟩;have hb3:(d2++a::r2).length<=big:=by rw[<-hes];exact hxl
 have hfin:∀(c:Bool),c=oV l a->∀(Q:AV->Eff->Prop)(t:Tok Q),
   (∀v' rd pa,Own (Eff.app hp' (.pat rd pa)) 13 1 false v' (((d2++[a]).map (oV l)).map AV.bool)->(∀k,k≠13->(Eff.app hp' (.pat rd pa)).get k=H.get k)->Q v' (.pat rd pa))->XO pg 0 (.app 1 false 1) 13 hp' [v8,.sl false [.bool c] true] Q t:=by
  intro c hcc Q t hq;refine gR (kb:=0) (s:=13) ho8 (El.bools _) (xs:=[.bool c]) (by intro y hy;simp at hy;subst hy;exact El.bool _) (by simp[big]at *;omega) (by omega) ?_;intro v' rd pa ho2 hk _;refine hq v' rd pa (by simpa[hcc] using ho2) (λk hk13=>?_);rw[hk k (by omega),hfr k hk13]
 rw[hes];cases z1:decide (0<=a);simp only[G2,G3,z1,go_sem,seval];refine hfin _ (by simp[oV,z1]) _ _ ?_;intro v' rd pa ho2 hk2;simp only[aZ hb3,go_sem,seval];exact⟨v',rfl,ho2,hk2⟩;cases z2:decide (a<(l.length:Int));simp only[G2,G3,z1,z2,↓hlen,go_sem,seval];refine hfin _ (by simp[oV,z2]) _ _ ?_;intro v' rd pa ho2 hk2;simp only[aZ hb3,go_sem,seval];exact⟨v',rfl,ho2,hk2⟩;simp only[aR]at z1 z2;obtain⟨k,e,hv,hg,hkm⟩:=ho.at z1 z2;have hk13:k≠13/\k≠5:=by rcases hks k hkm with h|h|h<;>omega
 have hgk:hp'.get k=some (e,.blk (l.map AV.bool) 1 false false false):=by rw[hfr k hk13.1,hHk k hk13.2,hg]
 have hla:l[a.toNat]?=some (l[a.toNat]'(by omega)):=aW (by omega);have z1':(0<=a)=True:=aK z1;have z2':(a<(l.length:Int))=True:=aK z2;have z3:decide (0<=a)=true:=decide_eq_true z1;have z4:decide (a<(l.length:Int))=true:=decide_eq_true z2;subst hv;simp only[G2,G3,z3,z4,z1',z2',hgk,hla,Nat.mul_one,bF,go_sem,seval];refine hfin _ (by simp[oV,z1,z2,hla]) _ _ ?_;intro v' rd pa ho2 hk2;simp only[aZ hb3,go_sem,seval];exact⟨v',rfl,ho2,hk2⟩
end
end
section
def zR(vals:List Typ)(v:Int):Bool:=decide (0<=v)&&(decide (v<(vals.length:Int))&&((vals[v.toNat]?).map λt=>decide (t.aSl.bs=[98,111,111,108])).getD false)
def ifT:List Bool->Bool
 |[a,b]=>a&&b
 |_=>false
def aIN(fn:List aP):List Bool->Bool
 |[a,b]=>a&&fD fn [true,b]
 |_=>false
def gK(vals:List Typ)(op:List UInt8)(num value:Int)(fn:List aP)(aSj:List Bool):Bool:=
 if decide (op=[99,111,110,115,116]) then decide (num=0)||decide (num=1)
 else if decide (op=[108,105,110,101,97,114]) then false
 else if decide (op=[114,101,97,100]) then zR vals value
 else if decide (op=[105,102]) then ifT aSj
 else if decide (op=[114,101,100,117,99,101]) then aIN fn aSj
 else if decide (op=[99,111,100,101]) then fD fn aSj
 else gX op aSj
mutual
def fO(vals:List Typ):aC->Bool
 |.mk op num value _ _ _ _ fn _ aSj _=>gK vals op.bs num value fn.es (D1 vals aSj)
def D1(vals:List Typ):List aC->List Bool
 |[]=>[]
 |p::r=>fO vals p::D1 vals r
end
theorem E0(vals:List Typ):∀l,D1 vals l=l.map (fO vals)
 |[]=>rfl
 |p::r=>by simp[D1,E0 vals r]
theorem E1(vals:List Typ)(p:aC):fO vals p=gK vals p.op.bs p.num p.value p.fn.es (p.aSj.map (fO vals)):=by cases p;rw[fO,E0];rfl
def iJ(k:aA)(nl cl:Bool)(there:List Bool)(m:Int):List AV:=
 [.sl k.vars.nl (k.vars.es.map Str.av) k.vars.cl,.sl k.aSk.nl (k.aSk.es.map Lin.av) k.aSk.cl,.int .i64 k.aSg,.sl k.aSe.nl (k.aSe.es.map Typ.av) k.aSe.cl,.sl k.aSf.nl (k.aSf.es.map aG.av) k.aSf.cl,.sl k.results.nl (k.results.es.map aH) k.results.cl,
  .sl nl (there.map AV.bool) cl,.int .i64 m]
theorem Own.flen{h:Hp}{k esz:Nat}{ag:Bool}{v:AV}{es:List AV}(o:Own h k esz ag v es)(h':Hp):QM h' 1 [v]=some (.int .i64 es.length,.pat [] []):=by
 rcases o with ⟨rfl,nl,cl,rfl,hc⟩|⟨e,cs,rfl,hg,hu⟩
 rfl;rfl
section
variable{pg:Pg}
set_option maxHeartbeats 1000000 in
theorem c63(hf:pg.fs 63=some aDG)(h64:∀(nl cl:Bool) (code:List aP),code.length<=16777216->∀(nl' cl':Bool) (args:List Bool),args.length<=16777216->(nl'=true->args=[])->Ret pg 64 [.sl nl (code.map aP.av) cl,.sl nl' (args.map AV.bool) cl'] (.bool (fD code args)))
  (h102:∀(op:List UInt8)(nl cl:Bool)(aSj:List Bool),aSj.length<=big->Ret pg 102 [.str op,.sl nl (aSj.map AV.bool) cl] (.bool (gX op aSj)))
  (k:aA) (nl cl:Bool) (there:List Bool) (m:Int):∀p:aC,p.ok->Ret pg 63 [.fp (.agg (iJ k nl cl there m)),p.av] (.bool (fO k.aSe.es p)):=by
 refine aC.ind' λp ih hp=>?_;obtain⟨hk,hks⟩:=(aC.ok_iff p).1 hp;refine Ret.ofX hf ?_;have htr:AV.tree (.fp (.agg (iJ k nl cl there m)))=true:=by simp only[iJ];simp only[go_sem,seval]
 unfold aDG;refine Wk ?_;generalize hH:Hp.put [] 1 0 _=H;have hH1:H.get 1=some (0,.blk [.str p.op.bs,.int .i64 p.num,.int .i64 p.value,.str p.name.bs,.sl p.at_.nl (p.at_.es.map Lin.av) p.at_.cl,.bool p.dyn,.int .i64 p.check,.sl p.fn.nl (p.fn.es.map aP.av) p.fn.cl,.sl p.knl (p.aSj.map aC.av) p.kcl] 9 true true false):=by rw[<-hH,aI,if_pos rfl]
 clear hH;rw[E1];refine aJ p.aSj (λd r env hp=>∃v,env=VS (.fp (.agg (iJ k nl cl there m))) (.pt 1 0 0) v (.sl p.knl (p.aSj.map aC.av) p.kcl) (.int .i64 p.aSj.length) (.int .i64 d.length)/\Own hp 13 1 false v ((d.map (fO k.aSe.es)).map AV.bool)/\hp.get 1=H.get 1) ?_ ?_ ?_;exact⟨_,rfl,Own.nil _ _ _ _ _ _ rfl,rfl⟩
 ·rintro env hp ⟨v,rfl,ho,h1⟩;rw[hH1]at h1;have hlen:=ho.flen;have hkl:(p.aSj.map (fO k.aSe.es)).length<=big:=by simpa using hk
  generalize p.aSj.map (fO k.aSe.es)=ks at ho hlen hkl ⊢;simp only[VR,VS,h1,go_sem,seval];cases o1:decide (p.op.bs=[99,111,110,115,116])
  case true=>
   repeat' (first|simp only[*,go_sem,seval]|refine bB (λ_=>?_) (λ_=>?_)|refine bD (λ_=>?_) (λ_=>?_)|refine aY ?_)
   all_goals (simp_all [gK])
  simp only[h1,go_sem,seval];cases o2:decide (p.op.bs=[108,105,110,101,97,114])
  case true=>refine Wk ?_;simp[gK,o1,o2]
  simp only[h1,go_sem,seval];cases o3:decide (p.op.bs=[114,101,97,100])
  case true=>
   have hs:gK k.aSe.es p.op.bs p.num p.value p.fn.es ks=zR k.aSe.es p.value:=by simp[gK,o1,o2,o3]
   rw[hs];cases z1:decide (0<=p.value);simp only[h1,z1,go_sem,seval];refine aY ?_;simp[zR,z1];cases z2:decide (p.value<(k.aSe.es.length:Int));simp only[h1,z1,z2,iJ,go_sem,seval];refine aY ?_;simp[zR,z2];simp only[aR]at z1 z2;have z1':(0<=p.value)=True:=aK z1;have z3:decide (0<=p.value)=true:=decide_eq_true z1;have z4:decide (p.value<(k.aSe.es.length:Int))=true:=decide_eq_true z2;obtain⟨t,hla⟩:∃t,k.aSe.es[p.value.toNat]?=some t:=⟨_,aW (by omega)⟩
   simp only[h1,z3,z4,z1',iJ,hla,go_sem,seval];refine aY ?_;simp only[zR,z3,z4,hla,Option.map_some,Option.getD_some,cE]
  simp only[h1,go_sem,seval];cases o4:decide (p.op.bs=[105,102])
  case true=>
   have hs:gK k.aSe.es p.op.bs p.num p.value p.fn.es ks=ifT ks:=by simp[gK,o1,o2,o3,o4]
   rw[hs]
   match ks,ho,hlen,hkl with
   |[],ho,hlen,hkl=>simp only[h1,↓hlen,go_sem,seval];rfl
   |[a],ho,hlen,hkl=>simp only[h1,↓hlen,go_sem,seval];rfl
   |a::b::c::r,ho,hlen,hkl=>
    have h3:decide (((((r.length+1+1+1):Nat):Int))=2)=false:=by simp;omega
    simp only[h1,↓hlen,h3,go_sem,seval];rfl
   |[a,b],ho,hlen,hkl=>
    obtain⟨e,rfl,hg⟩:∃e,v = .rf 13 e 0 2 2/\hp.get 13=some (e,.blk [.bool a,.bool b] 1 false false false):=by
     rcases ho with ⟨he,_⟩|⟨e,cs,rfl,hg,hu⟩
     simp at he;rw[eP]at hu;cases hu;exact⟨e,rfl,hg⟩
    have q1:(0:Int)<((2:Nat):Int):=by decide
    have q2:(1:Int)<((2:Nat):Int):=by decide
    cases a;simp only[h1,hg,go_sem,seval];rfl;simp only[h1,hg,go_sem,seval];rfl
  simp only[h1,go_sem,seval];cases o5:decide (p.op.bs=[114,101,100,117,99,101])
  case true=>
   have hs:gK k.aSe.es p.op.bs p.num p.value p.fn.es ks=aIN p.fn.es ks:=by simp[gK,o1,o2,o3,o4,o5]
   rw[hs]
   match ks,ho,hlen,hkl with
   |[],ho,hlen,hkl=>simp only[h1,↓hlen,go_sem,seval];refine aY ?_;rfl
   |[a],ho,hlen,hkl=>simp only[h1,↓hlen,go_sem,seval];refine aY ?_;rfl
   |a::b::c::r,ho,hlen,hkl=>
    have h3:decide (((((r.length+1+1+1):Nat):Int))=2)=false:=by simp;omega
    simp only[h1,↓hlen,h3,go_sem,seval];refine aY ?_;rfl
   |[a,b],ho,hlen,hkl=>
    obtain⟨e,rfl,hg⟩:∃e,v = .rf 13 e 0 2 2/\hp.get 13=some (e,.blk [.bool a,.bool b] 1 false false false):=by
     rcases ho with ⟨he,_⟩|⟨e,cs,rfl,hg,hu⟩
     simp at he;rw[eP]at hu;cases hu;exact⟨e,rfl,hg⟩
    cases a;simp only[h1,hg,go_sem,seval];refine aY ?_;rfl;simp only[h1,hg,go_sem,seval];refine aB (h64 p.fn.nl p.fn.cl p.fn.es p.fn.ok false true [true,b] (by simp) (by intro h;cases h)) (Wk ?_);refine aY ?_;rfl
  simp only[h1,go_sem,seval];cases o6:decide (p.op.bs=[99,111,100,101])
  case true=>
   have hs:gK k.aSe.es p.op.bs p.num p.value p.fn.es ks=fD p.fn.es ks:=by simp[gK,o1,o2,o3,o4,o5,o6]
   rw[hs];simp only[h1,go_sem,seval];obtain⟨nl8,cl8,keys,hsn,hnl8⟩:=ho.snap (El.bools _) 62;have h2:=h64 p.fn.nl p.fn.cl p.fn.es p.fn.ok nl8 cl8 ks hkl (by intro h;simpa using hnl8 h);refine cR h2 (sT (by simp only[go_sem,seval]) hsn) (v:=.bool (fD p.fn.es ks)) (pa:=[]) rfl ?_;simp only[go_sem,seval]
  have hs:gK k.aSe.es p.op.bs p.num p.value p.fn.es ks=gX p.op.bs ks:=by simp[gK,o1,o2,o3,o4,o5,o6]
  rw[hs];simp only[h1,go_sem,seval];obtain⟨nl8,cl8,keys,hsn,hnl8⟩:=ho.snap (El.bools _) 62;have h2:=h102 p.op.bs nl8 cl8 ks hkl;refine cR h2 (sT (by simp only[go_sem,seval]) hsn) (v:=.bool (gX p.op.bs ks)) (pa:=[]) rfl ?_;simp only[go_sem,seval]
 rintro d x r env hp hes ⟨v,rfl,ho,h1⟩;have hxm:x∈p.aSj:=by rw[hes];simp
 have hx:=ih x hxm (hks x hxm);have hb2:(d++x::r).length<=big:=by rw[<-hes];exact hk
 rw[hes];simp only[VR,VS,go_sem,seval];rw[aC.avc]at hx;refine bZ hx (by simp only[treeL,htr,cE,fF];simp only[go_sem,seval]) rfl (Wk ?_);refine gR (kb:=0) (s:=13) (ho.mono ?_) (El.bools _) (xs:=[.bool (fO k.aSe.es x)]) (by intro y hy;simp at hy;subst hy;exact El.bool _) (by simp[big]at *;omega) (by omega) ?_;simp only[go_sem,seval];intro v' rd pa ho2 hk2 _;simp only[aZ hb2,go_sem,seval];exact⟨v',rfl,by simpa using ho2,by rw[hk2 1 (by omega)];simp only[h1,go_sem,seval]⟩
end
end
section
def EO:aC:=.mk ⟨[],by decide⟩ 0 0 ⟨[],by decide⟩ ⟨true,[],true,by decide⟩ false 0 ⟨true,[],true,by decide⟩ true [] true
theorem ZY{p:aC}{v:Int}(h:yR p v=true):0<=p.value/\p.value<v:=by simp only[yR,aF,aR]at h;exact⟨h.1.1.1.2,h.1.1.2⟩
theorem qX(v:Int):∀p:aC,∀vars,jO v p vars=true->∀a∈fK p,0<=a/\a<v:=by
 refine aC.ind' λp ih vars h=>?_;rw[sF]at h;simp only[aF]at h;obtain⟨⟨h1,_⟩,h2⟩:=h;have hk:∀(l:List aC),(∀q∈l,q∈p.aSj)->∀i red,jL v red p.name vars i l=true->∀a∈jP l,0<=a/\a<v:=by
  intro l
  induction l with
  |nil=>intro _ i red _ a ha;simp[jP]at ha
  |cons q r ih2=>intro hm i red hv a ha;simp only[jL,aF]at hv;simp only[jP,jM]at ha;rcases ha with ha|ha;exact ih q (hm q (by simp)) _ hv.1 a ha;exact ih2 (λq hq=>hm q (by simp[hq])) _ red hv.2 a ha
 intro a ha;rw[IQ,jM]at ha;rcases ha with ha|ha;split at ha;rename_i ho;simp only[List.mem_singleton]at ha;subst ha;simp only[aR]at ho;have e1:¬(p.op.bs=[99,111,110,115,116]):=by rw[ho];decide
 have e2:¬(p.op.bs=[108,105,110,101,97,114]):=by rw[ho];decide
 have:gV p vars v=yR p v:=by unfold gV;rw[if_neg e1,if_neg e2,if_pos ho]
 rw[this]at h1;exact ZY h1;simp at ha;exact hk p.aSj (λq hq=>hq) 0 _ h2 a ha
def bS(there:List Bool)(v:Int):Bool:=(there[v.toNat]?).getD false
section
variable{pg:Pg}
theorem c66(hf:pg.fs 66=some aDD)(h105:∀p:aC,p.ok->∀q:aC,Ret pg 105 [p.av,q.av] (.bool (fH p q)))(p:aC)(hp:p.ok):Ret pg 66 [p.av] (.bool (fH p EO)):=by have k:=h105 p hp EO;rw[aC.avc,aC.avc]at k;refine Ret.ofX hf ?_;clear h105;unfold aDD;refine Wk ?_;refine aB k ?_;simp only[go_sem,seval]
theorem c110(hf:pg.fs 110=some KJ)(k:aA)(nl cl:Bool)(there:List Bool)(m nt v:Int)(h0:0<=v)(h1:v<there.length) :
  Ret pg 110 [.int .i64 v,.fp (.fp (.agg (iJ k nl cl there m))),.fp (.int .i64 nt)] (.bool (!bS there v||decide (v=nt))):=by
 obtain⟨b,hb⟩:∃b,there[v.toNat]?=some b:=⟨_,aW (by omega)⟩
 have ht:bS there v=b:=by simp[bS,hb]
 rw[ht];have h0':(0<=v)=True:=aK h0;refine Ret.ofX hf ?_;unfold KJ;cases b;simp only[iJ,h0',hb,go_sem,seval];simp only[iJ,h0',hb,go_sem,seval]
theorem c71(hf:pg.fs 71=some VM)(nl cl:Bool)(es:List Int)(hb:es.length<=big)(g:Nat)(cs:List AV)(hcs:treeL cs=true)(p:Int->Bool)(hp:∀x∈es,Ret pg g (aH x::cs) (.bool (p x))) :
  bQ pg 71 [.sl nl (es.map aH) cl,.fn g cs] (λr=>∃i:Int,r = .int .i64 i/\decide (0<=i)=es.any p):=
 AB (f:=71) (esz:=1) (ag:=false) hf aH (λ_=>rfl) (λ_=>rfl) nl cl es hb g cs hcs p hp
theorem c45(hf:pg.fs 45=some aAO)(h71:pg.fs 71=some VM)(nl cl:Bool)(es:List Int)(hb:es.length<=big)(g:Nat)(cs:List AV)(hcs:treeL cs=true)(p:Int->Bool)(hp:∀x∈es,Ret pg g (aH x::cs) (.bool (p x))) :
  Ret pg 45 [.sl nl (es.map aH) cl,.fn g cs] (.bool (es.any p)):=
 rO (n:=71) hf (by simp only[treeL,qY,wZ,hcs,mC,fF]) (c71 h71 nl cl es hb g cs hcs p hp)
def zY(i:Nat):Str:=⟨v7 i,by simp[v7,big]⟩
def gE(vars:List Str)(n:Nat):List Str:=vars++(List.range n).map zY
def gB(k:aA)(there:List Bool)(p:aC)(n:Nat)(nt:Int):Bool:=
 jQ p (gE k.vars.es n) k.aSe.es.length && !(cT p).any (λv => !bS there v||decide (v=nt))
theorem iD{n x:Nat}{d r:List Nat}(h:List.range n=d++x::r):x=d.length/\d.length<n:=by
 have h1:(List.range n)[d.length]?=some x:=by rw[h];simp
 have h2:=congrArg List.length h;simp at h2;rw[List.getElem?_range (by omega)]at h1;cases h1;exact⟨rfl,by omega⟩
theorem c69(B:aBh pg)(S:ZM pg)(hf:pg.fs 69=some aDA)(h107:pg.fs 107=some HF)(h109:∀p:aC,p.ok->∀(nl cl:Bool) (vars:List Str),vars.length+p.sz<=big->∀v:Int,Ret pg 109 [p.av,.sl nl (vars.map Str.av) cl,.int .i64 v] (.bool (jQ p vars v)))
  (h48:pg.fs 48=some V3) (h74:pg.fs 74=some Q3) (h110:pg.fs 110=some KJ) (h45:pg.fs 45=some aAO) (h71:pg.fs 71=some VM)
  (k:aA) (hnl:k.vars.nl=true->k.vars.es=[]) (nl cl:Bool) (there:List Bool) (hth:there.length=k.aSe.es.length) (m:Int) (p:aC) (hpo:p.ok) (n:Nat) (hn:n<=9) (hsz:k.vars.es.length+n+p.sz<=big) (nt:Int) :
  Ret pg 69 [.fp (.agg (iJ k nl cl there m)),p.av,.int .i64 n,.int .i64 nt] (.bool (gB k there p n nt)):=by
 refine Ret.ofX hf ?_;unfold aDA;have htr:treeL (iJ k nl cl there m)=true:=by simp only[iJ];simp only[go_sem,seval]
 simp only[iJ,go_sem,seval];refine CL (c107 h107 k.vars.nl k.vars.cl (k.vars.es.map Str.av) (El.strs _) (by simpa using k.vars.ok) (by intro h;simp[hnl h])) (by simp only[go_sem,seval]) (El.strs _) ?_;intro v0 rd pa ho0 hk0 _;simp only[hk0,go_sem,seval];have g1:=hk0 1 (by omega);have g5:=hk0 5 (by omega);have g9:=hk0 9 (by omega);simp only[go_sem,seval]at g1 g5 g9;clear hk0;generalize hH:Eff.app _ (Eff.pat rd pa)=H at ho0 g1 g5 g9 ⊢;clear hH
 refine aJ (List.range n) (λd r env hp=>∃v kk,env=VQ (.pt 1 0 0) (.pt 5 0 0) (.pt 9 0 0) v (.int .i64 n) (.int .i64 d.length)/\(kk=13\/kk=21)/\Own hp kk 1 false v ((k.vars.es++d.map zY).map Str.av) /\
  hp.get 1=H.get 1/\hp.get 5=H.get 5/\hp.get 9=H.get 9) ?_ ?_ ?_
 exact⟨v0,13,rfl,.inl rfl,by simpa using ho0,rfl,rfl,rfl⟩
 ·rintro env hp ⟨v,kk,rfl,hkk,ho,q1,q5,q9⟩;have hr:(List.range n).length=n:=List.length_range;rw[hr];rw[g1]at q1;rw[g5]at q5;rw[g9]at q9;have ho':Own hp kk 1 false v ((gE k.vars.es n).map Str.av):=ho;obtain⟨nl8,cl8,keys,hsn,hnl8⟩:=ho'.snap (El.strs _) 62;have h2:=h109 p hpo nl8 cl8 (gE k.vars.es n) (by simp[gE];omega) k.aSe.es.length;rw[aC.avc]at h2;have h3:=c48 S h48 h74 p hpo (by omega);rw[aC.avc]at h3;simp only[VP,VQ,q1,q5,q9,go_sem,seval];refine cR h2 (uA (by simp only[go_sem,seval]) hsn (by simp only[go_sem,seval])) (v:=.bool (jQ p (gE k.vars.es n) k.aSe.es.length)) (pa:=[]) rfl ?_;cases hv:jQ p (gE k.vars.es n) k.aSe.es.length
  ·refine Wk ?_;refine aY ?_
   all_goals (first|(simp only[gB,hv];rfl)|skip)
  simp only[q5,go_sem,seval];refine mN h3 (by simp only[go_sem,seval]) ?_;intro nl9 cl9 hnl9;refine Wk ?_;have hrl:(cT p).length<=big:=by have e1:=tE (lN (fK p));have e2:=nT (fK p);have e3:=tR p;simp only[cT];omega
  have hin:∀a∈cT p,0<=a/\a<(there.length:Int):=by intro a ha;simp only[cT,oB,pX]at ha;rw[hth];have hv2:=hv;simp only[jQ,aF]at hv2;exact qX _ p (gE k.vars.es n) hv2.2 a ha
  refine cR (c45 h45 h71 nl9 cl9 (cT p) hrl 110 [.fp (.fp (.agg (iJ k nl cl there m))),.fp (.int .i64 nt)] (by simp only[treeL,KX,E3,OL,htr,fF]) (λv => !bS there v||decide (v=nt)) (λv hv'=>c110 h110 k nl cl there m nt v (hin v hv').1 (hin v hv').2)) (keys:=[1,9]) ?_ (v:=.bool ((cT p).any (λv => !bS there v||decide (v=nt)))) (pa:=[]) rfl ?_;simp only[q1,q9,depth,cW,bM,fE,go_sem,Nat.reduceAdd,↓reduceIte];rfl;cases hq:(cT p).any (λv => !bS there v||decide (v=nt));refine Wk ?_;refine aY ?_;simp only[gB,hv,hq];rfl;refine Wk ?_;refine aY ?_;simp only[gB,hv,hq];rfl
 rintro d x r env hp hes ⟨v,kk,rfl,hkk,ho,q1,q5,q9⟩;obtain⟨hx,hlt⟩:=iD hes;have hb2:(d++x::r).length<=big:=by rw[<-hes];simp[big];omega
 have e1:decide ((d.length:Int)<(n:Int))=true:=by simp;omega
 simp only[VP,VQ,e1,go_sem,seval];refine aB (B.loop d.length (by omega)) (Wk ?_);refine uW (kb:=0) (s:=21) (k1:=kk) (ho.mono ?_) (El.strs _) (xs:=[.str (v7 d.length)]) (by intro y hy;simp at hy;subst hy;exact El.str _) (by simp) ?_ (by omega) ?_;simp only[go_sem,seval];simp only[aM,dC,List.length_cons,List.length_nil];simp only[big]at hsz;omega;intro v' rd' pa' ho2 hk2;simp only[aZ hb2,go_sem,seval];refine⟨v',21,rfl,.inr rfl,?_,?_,?_,?_⟩;rw[hx];simpa[Str.av,zY] using ho2;rw[hk2 1 (by omega) (by omega)];exact q1;rw[hk2 5 (by omega) (by omega)];exact q5;rw[hk2 9 (by omega) (by omega)];exact q9
end
end
section
def y9(k:aA)(q:aG):Bool:=decide (q.value<k.aSg)||decide ((k.aSe.es.length:Int)<=q.value)||decide (q.check<0)
def nN(vals:List Typ)(q:aG)(t:Typ):Bool:=
 decide (t.aSl.bs=[98,111,111,108])&&(!fO vals q.body||(decide (q.kind=2) && !fD q.fn.es [true,true]))
def LL(k:aA)(q:aG)(i:Nat):Bool:=
 !decide (q.kind=3) || !decide (q.source=q.value)||decide ((i:Int)=0) ||
  (match k.aSf.es[((i:Int)-1).toNat]? with | none=>true | some r => !decide (r.value=q.value) || !decide (r.kind=1))
def AA(k:aA)(there:List Bool)(q:aG)(t:Typ):Bool:=
 decide ((t.aSh.aSi.es.length:Int)=0)||decide (0<(q.fn.es.length:Int))||decide (q.source<0)||decide ((k.aSe.es.length:Int)<=q.source) || !bS there q.source ||
  (match k.aSe.es[q.source.toNat]? with|none=>true|some u => !jH u t)
def qP(q:aG):Bool := !decide (q.source=0) || !decide (q.check=0) || !fH q.index EO
def u6(q:aG)(t:Typ):List Lin:=if decide (q.kind=3) then t.aSh.aSi.es.dropLast else t.aSh.aSi.es
def xY(k:aA)(there:List Bool)(q:aG)(n:Nat)(nt:Int):Bool:=
 if decide (q.kind=1) then decide ((q.fn.es.length:Int)=0)&&gB k there q.body n nt
 else if decide (q.kind=2) then decide (0<(n:Int))&&eO q.fn.es 2&&gB k there q.body n nt
 else if decide (q.kind=3) then gB k there q.body n nt&&gB k there q.index n nt
 else false
def cO(k:aA)(there:List Bool)(q:aG)(i:Nat):Bool:=
 !y9 k q&&(match k.aSe.es[q.value.toNat]? with
  |none=>false
  |some t => !nN k.aSe.es q t && !(bS there q.value&&LL k q i) && !(if decide (q.kind=3) then AA k there q t else qP q) &&
   eqL cN q.space.es (u6 q t)&&xY k there q (u6 q t).length (if bS there q.value then q.value else -1))
theorem FF(esz:Nat)(nl cl:Bool)(es:List AV)(hb:es.length<=big)(hall:es.all (λv=>v.cells.length==esz)=true) :
  ∃c,decide ((es.length:Int)=0)=false->∀h,iZ h esz false true false [.sl nl es cl,.int .i64 (wr .i64 ((es.length:Int)-1))]=some (.sl nl es.dropLast c,.pat [] []):=by
 by_cases h0:es.length=0;exact⟨false,λh=>by simp[h0]at h⟩;have hw:wr .i64 ((es.length:Int)-1)=((es.length-1:Nat):Int):=by simp only[big]at hb;rw[aU (by omega) (by omega)];omega
 refine⟨(nl||cl)&&(((es.length-1:Nat):Int)==(es.length:Int)),λ_ h=>?_⟩;rw[hw];simp only[iZ,kX,j1,bR,aL,aN,Option.getD_none,Option.getD_some,hall,Option.isSome_none];rw[if_pos ⟨by omega,by omega,by omega,by omega,trivial⟩];simp only[val,Int.toNat_zero,List.drop_zero,dU,Nat.sub_zero,<-List.dropLast_eq_take]
end
section
def gW(k:aA):List Bool:=List.replicate k.aSg.toNat true++List.replicate (k.aSe.es.length-k.aSg.toNat) false
def aBt(th:List Bool)(q:aG):List Bool:=th.set q.value.toNat true
def cB(th:List Bool)(d:List aG):List Bool:=d.foldl aBt th
def pC(k:aA):List Bool->List aG->Nat->Option Nat
 |_,[],_=>none
 |th,q::r,i=>if cO k th q i then pC k (aBt th q) r (i+1) else some i
def eM(k:aA)(th:List Bool)(v:Int):Bool:=decide (v<0)||decide ((k.aSe.es.length:Int)<=v) || !bS th v
def fG(k:aA)(th:List Bool):Bool:=
 decide ((k.results.es.length:Int)<1)||decide (8<(k.results.es.length:Int))||k.results.es.any (eM k th)
def cY(k:aA):Int×Int:=
 if bJ k then
  (match pC k (gW k) k.aSf.es 0 with
  |some i=>(i,22)
  |none=>if fG k (cB (gW k) k.aSf.es) then (k.aSf.es.length,22) else (k.aSf.es.length,0))
 else (-1,22)
def nE(V i:Nat):List Bool:=List.replicate i true++List.replicate (V-i) false
theorem xN{V i:Nat}(h:i<=V):(nE V i).length=V:=by simp[nE];omega
theorem JM{V i:Nat}(h:i<V):(nE V i).set i true=nE V (i+1):=by
 obtain⟨m,rfl⟩:∃m,V=i+(m+1):=⟨V-i-1,by omega⟩
 simp only[nE];rw[List.set_append_right _ _ (by simp)];have e1:i+(m+1)-i=m+1:=by omega
 have e2:i+(m+1)-(i+1)=m:=by omega
 rw[e1,e2,List.replicate_succ (n:=m),List.replicate_succ' (n:=i)];simp
theorem aBs(th:List Bool)(q:aG):(aBt th q).length=th.length:=by simp[aBt]
theorem eF(th:List Bool)(d:List aG):(cB th d).length=th.length:=by
 induction d generalizing th with
 |nil=>rfl
 |cons x r ih=>simp only[cB,List.foldl_cons]at *;rw[ih,aBs]
theorem pM(th:List Bool)(d:List aG)(x:aG):cB th (d++[x])=aBt (cB th d) x:=by simp[cB]
theorem gI(l:List Bool)(i:Nat)(b:Bool):(l.map AV.bool).set i (.bool b)=(l.set i b).map AV.bool:=by rw[List.map_set]
theorem rW{l:List AV}{n:Nat}(x:AV)(h:n<l.length):List.take (0+n*1) l++[x]++List.drop (0+n*1+1) l=l.set n x:=by rw[List.set_eq_take_append_cons_drop,if_pos h];simp
theorem BQ{h:Hp}{d:Nat}{a b b':AV}{keys:List Nat}(hb:Tev.snap (d+1) h b=some (b',keys))(ha:a.tree=true):eN (Tev.snap (d+1) h) [b,a]=some ([b',a],keys):=by rw[bM,hb,bM,fE,if_pos ha,cW];simp
theorem d5{k:aA}{th:List Bool}{q:aG}{i:Nat}(h:cO k th q i=true):k.aSg<=q.value/\q.value<k.aSe.es.length/\0<=q.check:=by simp only[cO,y9,aF,eA,Bool.or_eq_false_iff,eJ]at h;omega
theorem ET{t:Typ}{vars:List Str}(h:hY t vars=true):t.aSh.aSi.es.length<=6:=by simp only[hY,uX,oK,aF,aR]at h;have:=h.1.1.1.2.1.2;omega
section
variable{pg:Pg}
theorem c46(hf:pg.fs 46=some aAN)(k:aA)(nl cl:Bool)(there:List Bool)(hth:there.length=k.aSe.es.length)(m v:Int) :
  Ret pg 46 [.int .i64 v,.fp (.agg k.cells),.fp (.fp (.agg (iJ k nl cl there m)))] (.bool (eM k there v)):=by
 have h0:decide (v<0)=false->(0<=v)=True:=λh=>aK (by simpa using h);obtain⟨b,hb⟩:∃b,decide (v<0)=false->decide ((k.aSe.es.length:Int)<=v)=false->there[v.toNat]?=some b:=by by_cases hh:v.toNat<there.length;exact⟨_,λ_ _=>aW hh⟩;exact⟨true,λx y=>by simp at x y;omega⟩
 have hb':decide (v<0)=false->decide ((k.aSe.es.length:Int)<=v)=false->bS there v=b:=λx y=>by simp[bS,hb x y]
 refine Ret.ofX hf ?_;unfold aAN
 repeat' (first|simp only[iJ,aA.cells, *,go_sem,seval]|refine bB (λ_=>?_) (λ_=>?_)|refine bD (λ_=>?_) (λ_=>?_)|refine aY ?_)
 all_goals (simp_all [eM])
 all_goals (intro h;omega)
def Q1(k:aA):List AV:=
 [.sl k.vars.nl (k.vars.es.map Str.av) k.vars.cl,.sl k.aSk.nl (k.aSk.es.map Lin.av) k.aSk.cl,.int .i64 k.aSg,.sl k.aSe.nl (k.aSe.es.map Typ.av) k.aSe.cl,.sl k.aSf.nl (k.aSf.es.map aG.av) k.aSf.cl,.sl k.results.nl (k.results.es.map aH) k.results.cl,
  .rf 9 0 0 k.aSe.es.length k.aSe.es.length,.int .i64 0]
theorem TD{h:Hp}{th:List Bool}{V:Nat}(hth:th.length=V)(g9:h.get 9=some (0,.blk (th.map AV.bool) 1 false true false))(d:Nat):Tev.snap (d+2) h (.rf 9 0 0 V V)=some (.sl false (th.map AV.bool) true,[9]):=by
 obtain⟨cs',h1,h2,h3,h4⟩:=eD (El.bools th);have h5:=h4 [];rw[List.append_nil]at h5;have h6:eN (Tev.snap (d+1) h) (th.map AV.bool)=some (th.map AV.bool,[]):=fI d h (oS th);rw[fE];simp only[aM]at h2 h5;subst hth;have h7:cs'=th.map AV.bool:=by rw[eP]at h1;exact(Option.some.inj h1).symm
 subst h7;simp[g9,h5,h6,AV.tree]
theorem O8{h:Hp}{k:aA}{th:List Bool}(hth:th.length=k.aSe.es.length)(g13:h.get 13=some (0,.blk (Q1 k) 8 true true false))(g9:h.get 9=some (0,.blk (th.map AV.bool) 1 false true false))(d:Nat) :
  Tev.snap (d+3) h (.pt 13 0 0)=some (.fp (.agg (iJ k false true th 0)),[13,9]):=by
 have h7:=TD hth g9 d;simp only[Q1]at g13;rw[fE];simp only[g13,cW,bM,↓h7,fE,go_sem,Nat.reduceAdd,↓reduceIte];rfl
theorem c28(hf:pg.fs 28=some aDZ)(h43:∀k:aA,Ret pg 43 [k.av] (.bool (bJ k)))
  (h44:∀(k:aA),(k.vars.nl=true->k.vars.es=[])->0<=k.aSg->(∀t∈k.aSe.es,t.aSh.aSi.es.length<=6)->∀(nl cl:Bool)(there:List Bool),there.length=k.aSe.es.length->∀(m:Int)(i:Nat)(q:aG),k.aSf.es[i]?=some q ->
   q.body.ok->q.index.ok->k.vars.es.length+9+q.body.sz<=big->k.vars.es.length+9+q.index.sz<=big ->
   Ret pg 44 [.fp (.agg (iJ k nl cl there m)),.int .i64 i] (.bool (cO k there q i)))
  (h45:pg.fs 45=some aAO) (h46:pg.fs 46=some aAN) (h71:pg.fs 71=some VM)
  (k:aA) (hnl:k.vars.nl=true->k.vars.es=[]) (hq:∀q∈k.aSf.es,q.body.ok/\q.index.ok/\k.vars.es.length+9+q.body.sz<=big/\k.vars.es.length+9+q.index.sz<=big) :
  Ret pg 28 [k.av] (.tup [.int .i64 (cY k).1,.int .i64 (cY k).2]):=by
 have a1:=h43 k;refine Ret.ofX hf ?_;unfold aDZ;simp only[aA.av,aA.cells,go_sem,seval];refine bZ a1 (by simp only[aA.av,aA.cells,go_sem,seval]) rfl ?_;cases ho:bJ k;refine Wk ?_;simp only[cY,ho];rfl;have hV:((k.aSe.es.length:Int)<=1073741824)=True:=aK (by have:=k.aSe.ok;simp only[big]at this;omega);have hfl:(List.replicate k.aSe.es.length [AV.bool false]).flatten=(List.replicate k.aSe.es.length false).map AV.bool:=by
  rw[List.map_replicate]
  induction k.aSe.es.length with
  |zero=>rfl
  |succ n ih=>rw[List.replicate_succ,List.flatten_cons,ih,List.replicate_succ];rfl
 simp only[hV,hfl,go_sem,seval];refine aY ?_;have hso:=ho;simp only[bJ,aF,aR]at hso;obtain⟨_,⟨⟨⟨⟨⟨⟨_,_⟩,hi0⟩,_⟩,hiV⟩,_⟩,_⟩,hty⟩:=hso;have hvals:∀t∈k.aSe.es,t.aSh.aSi.es.length<=6:=λt ht=>ET (by rw[eT]at hty;exact hty t ht);obtain⟨ins,hins⟩:∃n:Nat,k.aSg=n:=⟨k.aSg.toNat,by omega⟩
 have hinV:ins<=k.aSe.es.length:=by omega
 have hVb:=k.aSe.ok;have hf0:nE k.aSe.es.length 0=List.replicate k.aSe.es.length false:=by simp[nE]
 refine aJ (List.range ins) (λd r env hp=>env=WS (.pt 1 0 0) (.pt 17 0 0) (.int .i64 k.aSg) (.int .i64 d.length) /\
  hp.get 1=some (0,.blk k.cells 6 true true false)/\hp.get 13=some (0,.blk (Q1 k) 8 true true false)/\hp.get 17=some (0,.blk [.pt 13 0 0] 1 false true false)/\hp.get 9=some (0,.blk ((nE k.aSe.es.length d.length).map AV.bool) 1 false true false)) ?_ ?_ ?_
 refine⟨rfl,?_,?_,?_,?_⟩;refine Wk ?_;rfl;refine Wk ?_;rfl;simp only[go_sem,seval];rw[show ([]:List Nat).length=0 from rfl,hf0];simp only[go_sem,seval];rintro env hp ⟨rfl,g1,g13,g17,g9⟩;have hr:(List.range ins).length=ins:=List.length_range;rw[hr]at g9 ⊢;have e1:decide ((ins:Int)<k.aSg)=false:=by simp;omega
 have hth0:nE k.aSe.es.length ins=gW k:=by simp[nE,gW,hins]
 rw[hth0]at g9;have hthl:(gW k).length=k.aSe.es.length:=by rw[<-hth0,xN hinV]
 simp only[aA.cells,Sl.av,Q1]at g1 g13;simp only[WP,WS,e1,g1,go_sem,seval];have hrun:pC k (gW k) k.aSf.es 0=pC k (cB (gW k) []) k.aSf.es ([]:List aG).length:=rfl;clear hr hth0 hf0 hV hfl e1;have hH:∃H:Hp,H=hp:=⟨_,rfl⟩
 refine aJ k.aSf.es (λd r env hp=>env=WQ (.pt 1 0 0) (.pt 17 0 0) (.sl k.aSf.nl (k.aSf.es.map aG.av) k.aSf.cl) (.int .i64 k.aSf.es.length) (.int .i64 d.length) /\
  pC k (gW k) k.aSf.es 0=pC k (cB (gW k) d) r d.length /\
  hp.get 1=some (0,.blk k.cells 6 true true false)/\hp.get 13=some (0,.blk (Q1 k) 8 true true false)/\hp.get 17=some (0,.blk [.pt 13 0 0] 1 false true false)/\hp.get 9=some (0,.blk ((cB (gW k) d).map AV.bool) 1 false true false)) ?_ ?_ ?_
 exact⟨rfl,hrun,g1,g13,g17,g9⟩;rintro env hp ⟨rfl,hru,g1,g13,g17,g9⟩;have hthe:(cB (gW k) k.aSf.es).length=k.aSe.es.length:=by rw[eF,hthl]
 have hall:=c45 h45 h71 k.results.nl k.results.cl k.results.es k.results.ok 46 [.fp (.agg k.cells),.fp (.fp (.agg (iJ k false true (cB (gW k) k.aSf.es) 0)))] (by simp only[treeL,KX,E3,iJ,aA.cells];simp only[go_sem,seval])
  (eM k (cB (gW k) k.aSf.es)) (λv _=>c46 h46 k false true (cB (gW k) k.aSf.es) hthe 0 v)
 have hsn:Tev.snap 62 hp (.pt 13 0 0)=some (.fp (.agg (iJ k false true (cB (gW k) k.aSf.es) 0)),[13,9]):=O8 (k:=k) hthe g13 g9 59;simp only[aA.cells,Sl.av,Q1]at g1 g13;simp only[WN,WQ,g1,go_sem,seval];cases r1:decide ((k.results.es.length:Int)<1)
 case true=>simp only[g1,go_sem,seval];rw[cY,ho,hru,pC];simp[fG,r1]
 cases r2:decide (8<(k.results.es.length:Int))
 case true=>simp only[g1,r2,go_sem,seval];rw[cY,ho,hru,pC];simp[fG,r2]
 simp only[g1,r2,go_sem,seval];refine cR hall (keys:=[1,17,13,9]) ?_ (v:=.bool (k.results.es.any (eM k (cB (gW k) k.aSf.es)))) (pa:=[]) rfl ?_;simp only[g1,g17,↓hsn,depth,cW,bM,fE,go_sem,Nat.reduceAdd,↓reduceIte];rfl;cases r3:k.results.es.any (eM k (cB (gW k) k.aSf.es))
 case true=>simp only[g1,go_sem,seval];rw[cY,ho,hru,pC];simp[fG,r3]
 case false=>simp only[g1,go_sem,seval];rw[cY,ho,hru,pC];simp[fG,r1,r2,r3]
 rintro d q r env hp hes ⟨rfl,hru,g1,g13,g17,g9⟩;have hmem:q∈k.aSf.es:=by rw[hes];simp
 obtain⟨p1,p2,p3,p4⟩:=hq q hmem;have hget:k.aSf.es[d.length]?=some q:=by rw[hes];simp
 have hlb:=k.aSf.ok;have hb2:(d++q::r).length<=big:=by rw[<-hes];exact hlb
 have hlt:d.length<k.aSf.es.length:=by rw[hes];simp
 have e1:decide ((d.length:Int)<(k.aSf.es.length:Int))=true:=by simp;omega
 have e2:((d.length:Int)<(k.aSf.es.length:Int))=True:=aK (by omega);have hkk:=h44 k hnl hi0 hvals false true (cB (gW k) d) (by rw[eF,hthl]) 0 d.length q hget p1 p2 p3 p4;have g1':=g1;have g13':=g13;simp only[aA.cells,Sl.av,Q1]at g1 g13;have hsn:∀H:Hp,H.get 13=hp.get 13->H.get 9=hp.get 9->Tev.snap (61+3) H (.pt 13 0 0)=some (.fp (.agg (iJ k false true (cB (gW k) d) 0)),[13,9]):=
  λH x y=>O8 (by rw[eF,hthl]) (x.trans g13') (y.trans g9) 61
 simp only[WN,WQ,e1,e2,g1,g13,g17,g9,hget,go_sem,seval];refine cR hkk (BQ (hsn _ (by simp only[go_sem,seval]) (by simp only[go_sem,seval])) (by simp only[go_sem,seval])) (v:=.bool (cO k (cB (gW k) d) q d.length)) (pa:=[]) rfl ?_;cases hkq:cO k (cB (gW k) d) q d.length;refine Wk ?_;rw[cY,ho,hru,pC,hkq];rfl;obtain⟨k1,k2,k3⟩:=d5 hkq;have k0:(0<=q.value)=True:=aK (by omega);have k2':(q.value<(k.aSe.es.length:Int))=True:=aK k2;have k4:(0+q.value.toNat*1+1<=(cB (gW k) d).length)=True:=aK (by rw[eF,hthl];omega);have e4:=rW (l:=(cB (gW k) d).map AV.bool) (n:=q.value.toNat) (.bool true) (by rw[aM,eF,hthl];omega);rw[gI]at e4;simp only[g13,g17,g9,k0,k2',k4,e4,go_sem,seval];refine aY ?_;simp only[aZ hb2,go_sem,seval];rw[pM];refine⟨rfl,?_,g1',rfl,rfl⟩;rw[hru,pC,hkq];simp;rintro d x r env hp hes ⟨rfl,g1,g13,g17,g9⟩;obtain⟨hx,hlt⟩:=iD hes;have hb2:(d++x::r).length<=big:=by rw[<-hes];simp;omega
 have e1:decide ((d.length:Int)<k.aSg)=true:=by simp;omega
 have e2:((d.length:Int)<(k.aSe.es.length:Int))=True:=aK (by omega);have g1':=g1;have g13':=g13;simp only[aA.cells,Sl.av,Q1]at g1 g13;have hfl2:=xN (V:=k.aSe.es.length) (i:=d.length) (by omega);have e3:(0+d.length*1+1<=(nE k.aSe.es.length d.length).length)=True:=aK (by omega);have e4:=rW (l:=(nE k.aSe.es.length d.length).map AV.bool) (n:=d.length) (.bool true) (by simp;omega);rw[gI,JM (by omega)]at e4;simp only[WP,WS,e1,e2,g1,g13,g17,g9,e3,e4,aZ hb2,go_sem,seval];rw[dC];exact⟨rfl,rfl,rfl,rfl⟩
end
end
section
theorem wru{n:Nat}(h:n<=big):wr .u64 (n:Int)=n:=by simp only[big]at h;simp only[wr];rw[if_pos ⟨by omega,by omega⟩]
theorem aEy{n:Nat}(h:n<=big):bits IntKind.u64 (λx1 x2=>x1 &&& x2) (n:Int) 4294967295 = .int .u64 n:=by
 simp only[big]at h;have e2:(BitVec.ofInt 64 (n:Int) &&& BitVec.ofInt 64 4294967295).toNat=n:=by
  rw[BitVec.toNat_and];have e3:(BitVec.ofInt 64 4294967295).toNat=2 ^ 32-1:=by decide
  have e4:(BitVec.ofInt 64 (n:Int)).toNat=n:=by rw[BitVec.toNat_ofInt];omega
  rw[e3,e4,Nat.and_two_pow_sub_one_eq_mod];omega
 show AV.int .u64 (IntKind.u64.wrap ((BitVec.ofInt 64 (n:Int) &&& BitVec.ofInt 64 4294967295).toNat:Int))=_;rw[e2];have:=wru (n:=n) (by simp only[big];omega);congr 1;simp only[IntKind.wrap,IntKind.signed,IntKind.bits,d9,bR,aL];omega
theorem GG{a b:Int}(h:bits IntKind.u64 (λx1 x2=>x1 &&& x2) a 4294967295 = .int .u64 b):Y1 .and [.int .u64 a,.int .u64 4294967295]=some (.int .u64 b,.pat [] []):=by rw[<-h];rfl
def fl2(n:Nat)(x y:AV):List AV:=(List.replicate n [x,y]).flatten
theorem AD(n:Nat)(x y:AV):(fl2 n x y).length=n*2:=by
 induction n with
 |zero=>rfl
 |succ n ih=>simp only[fl2,List.replicate_succ,List.flatten_cons,dC,List.length_cons,List.length_nil]at *;omega
theorem AE(m n:Nat)(x y:AV):fl2 (m+n) x y=fl2 m x y++fl2 n x y:=by simp only[fl2];rw[<-List.replicate_append_replicate,List.flatten_append]
theorem GA{m n:Nat}(h:m<=n)(x y:AV)(tl:List AV):(fl2 n x y++tl).take (m*2)=fl2 m x y:=by
 obtain⟨k,rfl⟩:∃k,n=m+k:=⟨n-m,by omega⟩
 rw[AE,lH,List.take_append_of_le_length (by rw[AD];exact aX _),List.take_of_length_le (by rw[AD];exact aX _)]
theorem QJ{m n:Nat}(h:m<=n)(x y:AV)(tl:List AV):(fl2 n x y++tl).drop (m*2)=fl2 (n-m) x y++tl:=by
 obtain⟨k,rfl⟩:∃k,n=m+k:=⟨n-m,by omega⟩
 rw[AE,lH,List.drop_left' (AD m x y),Nat.add_sub_cancel_left]
theorem aFJ(l:List AV)(n:Nat)(a b:Int)(h:∀v∈l,v = .agg [.int .i64 a,.int .i64 b])(hn:l.length=n):cK 2 true l=some (fl2 n (.int .i64 a) (.int .i64 b)):=by
 subst hn
 induction l with
 |nil=>rfl
 |cons v r ih=>have hv:=h v (by simp);subst hv;have ih':=ih (λw hw=>h w (dY _ hw));simp only[List.length_cons];rw[show r.length+1=1+r.length from by omega,AE];simp[cK,ih',AV.fits,fl2,AV.cells];rfl
theorem aFL{h:Hp}{k e esz:Nat}{ag ti:Bool}{cs es:List AV}(hg:h.get k=some (e,.blk cs esz ag ti false))(hu:cK esz ag es=some cs)(he:∀x∈es,El esz ag x) :
  Tev.conv h (.rf k e 0 es.length es.length)=some (.os es esz ag):=by
 obtain⟨cs',h1,h2,h3,h4⟩:=eD he;rw[hu]at h1;cases h1;have h5:=h4 [];rw[List.append_nil]at h5;simp[Tev.conv,hg,h5,O6 he]
def rep(x y:AV)(V n:Nat):List AV:=fl2 n x y++fl2 (V-n) (.int .i64 0) (.int .i64 0)
theorem LE(x y:AV){V n:Nat}(h:n<=V):(rep x y V n).length=V*2:=by simp only[rep,dC,AD];omega
theorem aBA(x y:AV){V n m:Nat}(h:n<=V)(hm2:m<=V-n):fN (rep x y V n) (n*2) (fl2 m x y)=rep x y V (n+m):=by
 simp only[fN,rep];rw[GA (aX n),AD,<-Nat.add_mul];rw[Nat.add_mul,<-List.drop_drop,QJ (aX n),Nat.sub_self];have:fl2 (V-n) (.int .i64 0) (.int .i64 0)=fl2 (V-n) (.int .i64 0) (.int .i64 0)++[]:=by simp
 rw[show fl2 0 x y=[] from rfl,fW,this,QJ hm2,AE,List.append_nil];congr 2;omega
theorem Y4{h:Hp}{x y src:AV}{V n j cap off:Nat}{rd:List Nat}(hn:n<=V)(hg:h.get 5=some (0,.blk (rep x y V n) 2 true true false))(hs:bH h 2 true src=some (fl2 j x y,j,rd))(ho:V-n=0/\off<=V*2\/off=n*2) :
  QN h 2 true [.rf 5 0 off (V-n) cap,src]=some (.int .i64 (min j (V-n):Nat),.pat (5::rd) [⟨5,0,.blk (rep x y V (n+min j (V-n))) 2 true true false⟩]):=by
 have hl:=LE x y hn;simp only[QN,hg,hs];rw[if_pos ⟨trivial,by omega⟩];have ht:(fl2 j x y).take (min j (V-n)*2)=fl2 (min j (V-n)) x y:=by have:=GA (Nat.min_le_left j (V-n)) x y [];rwa [List.append_nil]at this
 rw[ht];rcases ho with ⟨h0,hoff⟩|rfl;rw[h0,Nat.min_zero,show fl2 0 x y=[] from rfl];simp[fN];rw[aBA x y hn (Nat.min_le_right _ _)]
theorem UL(n:Nat)(a b:Int):cX (fl2 n (.int .i64 a) (.int .i64 b))=true:=by
 induction n with
 |zero=>rfl
 |succ n ih=>rw[show n+1=1+n from by omega,AE];simp only[fl2]at ih;simp[fl2,cX,ih];exact⟨rfl,rfl⟩
theorem aII{h:Hp}{cs:List AV}{n j:Nat}(hg:h.get 5=some (0,.blk cs 2 true true false))(hj:j<n):iZ h 2 true false false [.rf 5 0 0 n n,.int .i64 j]=some (.rf 5 0 (j*2) (n-j) (n-j),.pat [5] []):=by simp only[iZ,kX,j1,hg,bR,aL,aN,Option.getD_none,Option.getD_some];rw[if_pos ⟨trivial,trivial,by omega,by omega,by omega,by omega,by simp,.inr (.inr trivial)⟩,if_neg (by omega)];simp
theorem aIJ{h:Hp}{cs:List AV}{n j:Nat}(hg:h.get 5=some (0,.blk cs 2 true true false))(hj:j<=n):iZ h 2 false true false [.rf 5 0 0 n n,.int .i64 j]=some (.rf 5 0 0 j n,.pat [5] []):=by simp only[iZ,kX,j1,hg,bR,aL,aN,Option.getD_none,Option.getD_some];rw[if_pos ⟨trivial,trivial,by omega,by omega,by omega,by omega,by simp,.inl trivial⟩];simp
section
variable{pg:Pg}
theorem c73(hf:pg.fs 73=some VL)(n:Nat)(hn:n<=big):Ret pg 73 [.int .u64 1,.int .u64 n] (.tup [.int .u64 0,.int .u64 n]):=by
 refine Ret.ofX hf ?_;unfold VL;have m0:bits IntKind.u64 (λx1 x2=>x1 &&& x2) 0 4294967295 = .int .u64 0:=by rfl
 have m1:bits IntKind.u64 (λx1 x2=>x1 &&& x2) 1 4294967295 = .int .u64 1:=by rfl
 have mn:bits IntKind.u64 (λx1 x2=>x1 &&& x2) (n:Int) 4294967295 = .int .u64 n:=aEy hn;have s0:Int.fdiv 0 (2 ^ min 32 64)=0:=by decide
 have s1:Int.fdiv 1 (2 ^ min 32 64)=0:=by decide
 have sn:(n:Int).fdiv (2 ^ min 32 64)=0:=by
  simp only[big]at hn;rw[Int.fdiv_eq_ediv_of_nonneg _ (by decide)]
  exact Int.ediv_eq_zero_of_lt (by omega) (by have:(2 ^ min 32 64:Int)=4294967296:=by decide
                                              omega)
 have wn:wr .u64 (n:Int)=n:=wru hn;have w0:wr .u64 0=0:=by rfl
 simp only[↓GG m0,↓GG m1,↓GG mn,s0,s1,sn,wn,w0,Int.one_mul,Int.zero_mul,Int.mul_zero,Int.zero_add,Int.add_zero,go_sem,seval]
theorem c47(hf:pg.fs 47=some aAM)(h73:pg.fs 73=some VL)(n:Nat)(hn:n<=big):Ret pg 47 [.int .u64 1,.int .u64 n] (.tup [.int .u64 0,.int .u64 n]):=by refine Ret.ofX hf ?_;unfold aAM;refine Wk ?_;refine aB (c73 h73 n hn) ?_;simp only[go_sem,seval]
theorem c29(hf:pg.fs 29=some aDY)(h47:pg.fs 47=some aAM)(h73:pg.fs 73=some VL)(nl cl:Bool)(a b:Int)(n:Nat)(hn:n<=big) :
  bQ pg 29 [.sl nl [.agg [.int .i64 a,.int .i64 b]] cl,.int .i64 n] (pA 2 true (List.replicate n (.agg [.int .i64 a,.int .i64 b]))):=by
 refine bQ.ofX hf ?_;unfold aDY;have e0:decide ((n:Int)<0)=false:=by simp
 have w1:wr .u64 1=1:=by rfl
 have wn:wr .u64 (n:Int)=n:=wru hn;have wi:wr .i64 (n:Int)=n:=aID (by simp only[big]at hn;omega);have l1:decide (0<(0:Int))=false:=by decide
 have l2:decide (9223372036854775807<(n:Int))=false:=by simp only[big]at hn;simp;omega
 have hn':((n:Int)<=1073741824)=True:=by simp only[big]at hn;simp;omega
 have hfl:(List.replicate n [AV.int IntKind.i64 0,AV.int IntKind.i64 0]).flatten=rep (.int .i64 a) (.int .i64 b) n 0:=by simp[rep,fl2]
 have hl0:(0+n*2<=(rep (.int .i64 a) (.int .i64 b) n 0).length)=True:=aK (by rw[LE _ _ (Nat.zero_le n)];omega);simp only[e0,w1,wn,wi,go_sem,seval];refine aB (c47 h47 h73 n hn) ?_
 have hc0:=Y4 (h:=Hp.put [] 5 0 (.blk (rep (.int .i64 a) (.int .i64 b) n 0) 2 true true false)) (x:=.int .i64 a) (y:=.int .i64 b) (src:=.sl nl [.agg [.int .i64 a,.int .i64 b]] cl) (V:=n) (n:=0) (j:=1) (cap:=n) (off:=0) (rd:=[]) (Nat.zero_le n) (by simp only[go_sem,seval])
  (by simp[bH,cK,AV.fits,fl2,AV.cells];rfl) (.inr rfl)
 rw[Nat.sub_zero,bF]at hc0;simp only[wi,l2,hn',hfl,↓hc0,go_sem,seval];refine tH (α:=Nat) (λj=>n-j) (λj env hp=>env=WM (.rf 5 0 0 n n) (.int .i64 j)/\j<=n/\(0<n->0<j)/\hp.get 5=some (0,.blk (rep (.int .i64 a) (.int .i64 b) n j) 2 true true false)) (min 1 n) ?_ ?_;refine⟨rfl,by omega,by omega,?_⟩;simp only[go_sem,seval];rintro j env hp ⟨rfl,hj,hj0,hg⟩;by_cases hjn:j<n;have e1:decide ((j:Int)<(n:Int))=true:=by simp;omega
 have e2:((j:Int)<=(n:Int))=True:=aK (by omega);have hsr:bH hp 2 true (.rf 5 0 0 j n)=some (fl2 j (.int .i64 a) (.int .i64 b),j,[5]):=by
  have ht:((rep (.int .i64 a) (.int .i64 b) n j).drop 0).take (j*2)=fl2 j (.int .i64 a) (.int .i64 b):=by rw[List.drop_zero,rep];exact GA (aX j) _ _ _
  simp only[bH,hg];rw[ht,if_pos ⟨trivial,by rw[LE _ _ hj];omega,UL _ _ _⟩]
 have hc:=Y4 (cap:=n-j) hj hg hsr (.inr rfl);have hw:wr .i64 ((j:Int)+(min j (n-j):Nat))=((j+min j (n-j):Nat):Int):=by simp only[big]at hn;rw[aU (by omega) (by omega)];omega
 simp only[WL,WM,e1,e2,↓aII hg hjn,↓aIJ hg hj,↓hc,hw,go_sem,seval];refine aY ?_;refine⟨j+min j (n-j),by omega,?_,by omega,by omega,?_⟩;rfl;simp only[go_sem,seval];obtain rfl:j=n:=by omega
 have e1:decide ((j:Int)<(j:Int))=false:=by simp
 simp only[WL,WM,e1,hg,go_sem,seval];have hu:=aFJ (List.replicate j (.agg [.int .i64 a,.int .i64 b])) j a b (λv hv=>(List.mem_replicate.1 hv).2) (by simp);have hcv:=aFL (es:=List.replicate j (.agg [.int .i64 a,.int .i64 b])) hg (by rw[hu,rep,Nat.sub_self];simp[fl2]) (λv hv=>by rw[(List.mem_replicate.1 hv).2];exact⟨rfl,rfl,rfl⟩);rw[EN]at hcv;exact⟨_,hcv,.inr rfl⟩
end
end
section
def GE(l:Lin):Bool:=(l.ts.es.all λc => !decide (35<(c.v.bs.length:Int)))&&decide ((l.ts.es.length:Int)<=14)
def JO(s:cZ):Bool:=(s.aSi.es.all GE)&&(decide ((s.aSi.es.length:Int)<=8)&&decide ((s.row.bs.length:Int)<=35))
def DC(l:List aP):Bool:=(l.all λs => !(decide (4<(s.args.es.length:Int))||decide (20<(s.op.bs.length:Int))))&&decide ((l.length:Int)<=10)
def AF(t:Typ):Bool:=decide ((t.aSl.bs.length:Int)<=35)&&JO t.aSh
def JB(k:aA)(l:List aG)(vs:List Typ):List AV:=
 [.sl k.vars.nl (k.vars.es.map Str.av) k.vars.cl,.sl k.aSk.nl (k.aSk.es.map Lin.av) k.aSk.cl,.int .i64 k.aSg,.sl k.aSe.nl (vs.map Typ.av) k.aSe.cl,.sl k.aSf.nl (l.map aG.av) k.aSf.cl,.sl k.results.nl (k.results.es.map aH) k.results.cl]
def vT(p:aC)(l:List aC):List AV:=
 [.str p.op.bs,.int .i64 p.num,.int .i64 p.value,.str p.name.bs,.sl p.at_.nl (p.at_.es.map Lin.av) p.at_.cl,.bool p.dyn,.int .i64 p.check,.sl p.fn.nl (p.fn.es.map aP.av) p.fn.cl,.sl p.knl (l.map aC.av) p.kcl]
mutual
def xZ:aC->Bool
 |.mk op _ _ name at_ _ _ fn _ aSj _=>GF aSj&&(JO ⟨⟨[],by decide⟩,at_⟩&&DC fn.es&&decide ((name.bs.length:Int)<=35)&&decide ((op.bs.length:Int)<=20))
def GF:List aC->Bool
 |[]=>true
 |p::r=>xZ p&&GF r
end
theorem JP:∀l,GF l=l.all xZ
 |[]=>by simp[GF]
 |p::r=>by simp[GF,JP r]
theorem QL(p:aC):xZ p=(p.aSj.all xZ&&(JO ⟨⟨[],by decide⟩,p.at_⟩&&DC p.fn.es&&decide ((p.name.bs.length:Int)<=35)&&decide ((p.op.bs.length:Int)<=20))):=by cases p;rw[xZ,JP];rfl
def DD(p:aC):Bool:=decide (tX p<=60)&&xZ p
def JN(q:aG):Bool:=DD q.body&&DD q.index && !decide (8<(q.space.es.length:Int))&&DC q.fn.es
def qT(k:aA):Bool:=k.aSf.es.all JN&&(k.aSe.es.all AF&&(decide ((k.aSf.es.length:Int)<=16)&&decide ((k.aSe.es.length:Int)<=20)&&decide ((k.vars.es.length:Int)<=13)&&decide ((k.aSk.es.length:Int)<=12)&&decide ((k.results.es.length:Int)<=10)))
section
variable{pg:Pg}
theorem c56(hf:pg.fs 56=some MW)(l:Lin):Ret pg 56 [l.av] (.bool (GE l)):=by have hb:=l.ts.ok;refine Ret.ofX hf ?_;unfold MW;refine Wk ?_;refine fJ l.ts.es (λd e=>fP e (some 3) (.int .i64 d.length)) (λd r hp=>hp.get 1=some (0,.blk [.int .i64 l.c,.sl l.ts.nl (l.ts.es.map dQ.av) l.ts.cl] 2 true true false)/\(l.ts.es.all λc => !decide (35<(c.v.bs.length:Int)))=(r.all λc => !decide (35<(c.v.bs.length:Int)))) rfl ?_ ?_ ?_;simp only[go_sem,seval];rintro hp ⟨h1,hI⟩;simp only[VU,VT,h1,go_sem,seval];simp[GE,hI];rintro d x r hp hes ⟨h1,hI⟩;rw[hes]at hb hI h1;have h0:=h1;rw[hes];simp only[VU,VT,h1,go_sem,seval];cases hd:decide (35<(x.v.bs.length:Int));simp only[aZ hb,go_sem,seval];exact⟨h0,by simpa[hd] using hI⟩;refine Wk ?_;simp only[GE,hes,hI,fV,hd];rfl
theorem c42(hf:pg.fs 42=some RE)(h56:pg.fs 56=some MW)(s:cZ):Ret pg 42 [s.av] (.bool (JO s)):=by
 have hb:=s.aSi.ok;refine Ret.ofX hf ?_;unfold RE;refine Wk ?_;refine fJ s.aSi.es (λd e=>fP e (some 3) (.int .i64 d.length)) (λd r hp=>hp.get 1=some (0,.blk [.str s.row.bs,.sl s.aSi.nl (s.aSi.es.map Lin.av) s.aSi.cl] 2 true true false)/\(s.aSi.es.all GE)=(r.all GE)) rfl ?_ ?_ ?_;simp only[go_sem,seval]
 ·rintro hp ⟨h1,hI⟩
  repeat' (first|simp only[V7,V6,h1, *,go_sem,seval]|refine bB (λ_=>?_) (λ_=>?_)|refine bD (λ_=>?_) (λ_=>?_)|refine aY ?_)
  all_goals (simp_all [JO])
  all_goals (intro h;omega)
 rintro d x r hp hes ⟨h1,hI⟩;have hx:=c56 h56 x;rw[Lin.avc]at hx;rw[hes]at hb hI h1;have h0:=h1;rw[hes];simp only[V7,V6,h1,go_sem,seval];refine aB (hx) ?_;cases hd:GE x;refine Wk ?_;simp only[JO,hes,hI,fV,hd];rfl;simp only[aZ hb,go_sem,seval];exact⟨h0,by simpa[hd] using hI⟩
theorem c26(hf:pg.fs 26=some RP)(nl cl:Bool)(l:List aP)(hb:l.length<=big):Ret pg 26 [.sl nl (l.map aP.av) cl] (.bool (DC l)):=by
 refine Ret.ofX hf ?_;unfold RP;refine Wk ?_;refine fJ l (λd e=>fP e (some 3) (.int .i64 d.length)) (λd r hp=>(l.all λs => !(decide (4<(s.args.es.length:Int))||decide (20<(s.op.bs.length:Int))))=(r.all λs => !(decide (4<(s.args.es.length:Int))||decide (20<(s.op.bs.length:Int))))) rfl ?_ ?_ ?_;rfl
 ·rintro hp hI
  repeat' (first|simp only[WV,WU, *,go_sem,seval]|refine bB (λ_=>?_) (λ_=>?_)|refine bD (λ_=>?_) (λ_=>?_)|refine aY ?_)
  all_goals (simp_all [DC])
 rintro d x r hp hes hI;rw[hes]at hb hI;rw[hes];simp only[WV,WU,go_sem,seval];cases hd:decide (4<(x.args.es.length:Int));refine Wk ?_;cases hd2:decide (20<(x.op.bs.length:Int));simp only[aZ hb,go_sem,seval];simpa[hd,hd2] using hI;refine Wk ?_;simp only[DC,hes,hI,fV,hd,hd2];rfl;refine Wk ?_;simp only[DC,hes,hI,fV,hd];rfl
theorem c27(hf:pg.fs 27=some aEa)(h42:pg.fs 42=some RE)(h56:pg.fs 56=some MW)(t:Typ):Ret pg 27 [t.av] (.bool (AF t)):=by
 have hx:=c42 h42 h56 t.aSh;rw[cZ.avc]at hx;refine Ret.ofX hf ?_;unfold aEa
 repeat' (first|simp only[*,go_sem,seval]|refine bB (λ_=>?_) (λ_=>?_)|refine bD (λ_=>?_) (λ_=>?_)|(refine aB hx ?_)|refine aY ?_)
 all_goals (simp_all [AF])
 all_goals (intro h;omega)
theorem c40(hf:pg.fs 40=some WC):∀p:aC,p.ok->Ret pg 40 [p.av] (.int .i64 (tX p)):=by refine aC.ind' λp ih hp=>?_;obtain⟨hb,hk⟩:=(aC.ok_iff p).1 hp;refine Ret.ofX hf ?_;unfold WC;refine Wk ?_;refine fJ p.aSj (λd e=>fP (fP e (some 4) (.int .i64 d.length)) (some 3) (.int .i64 (qK 1 d))) (λd r hp=>hp.get 1=some (0,.blk p.cells 9 true true false)) (by simp only[qK];rfl) ?_ ?_ ?_;refine Wk ?_;rfl;rintro hp h1;simp only[aC.cells,Sl.av,aC.kav]at h1;simp only[WB,WA,h1,go_sem,seval];exact(I1 p).symm;rintro d x r hp hes h1;have h0:=h1;simp only[aC.cells,Sl.av,aC.kav]at h1;have hx:=ih x (by rw[hes];simp) (hk x (by rw[hes];simp));rw[hes]at hb h1;rw[hes];have h2:hp.get 1=some (0,.blk [.str p.op.bs,.int .i64 p.num,.int .i64 p.value,.str p.name.bs,.sl p.at_.nl (p.at_.es.map Lin.av) p.at_.cl,.bool p.dyn,.int .i64 p.check,.sl p.fn.nl (p.fn.es.map aP.av) p.fn.cl,.sl p.knl ((d++x::r).map aC.av) p.kcl] 9 true true false):=h1;simp only[WB,WA,h2,go_sem,seval];refine aB (hx) ?_;simp only[aZ hb,vX,go_sem,seval];exact h0
theorem c41(hf:pg.fs 41=some aAP)(h42:pg.fs 42=some RE)(h56:pg.fs 56=some MW)(h26:pg.fs 26=some RP):∀p:aC,p.ok->Ret pg 41 [p.av] (.bool (xZ p)):=by
 refine aC.ind' λp ih hp=>?_;obtain⟨hb,hk⟩:=(aC.ok_iff p).1 hp;have a1:=c42 h42 h56 ⟨⟨[],by decide⟩,p.at_⟩;have a2:=c26 h26 p.fn.nl p.fn.cl p.fn.es p.fn.ok;rw[cZ.avc]at a1;refine Ret.ofX hf ?_;unfold aAP;refine Wk ?_;refine fJ p.aSj (λd e=>fP e (some 3) (.int .i64 d.length)) (λd r hp=>hp.get 1=some (0,.blk (vT p p.aSj) 9 true true false)/\p.aSj.all xZ=r.all xZ) rfl ?_ ?_ ?_;exact⟨by simp only[go_sem,seval];rfl,rfl⟩
 ·rintro hp ⟨h1,hI⟩;simp only[vT]at h1
  repeat' (first|simp only[V9,V8, *,go_sem,seval]|refine bB (λ_=>?_) (λ_=>?_)|refine bD (λ_=>?_) (λ_=>?_)|(refine aB a1 ?_)|(refine aB a2 ?_)|refine aY ?_)
  all_goals (clear h1 a1 a2 hf h42 h56 h26 ih)
  all_goals (rw[QL,hI])
  all_goals (simp_all)
  all_goals (try (intros;omega))
 rintro d x r hp hes ⟨h1,hI⟩;have hx:=ih x (by rw[hes];simp) (hk x (by rw[hes];simp));have hI2:=hI;rw[hes]at hb hI h1;have h0:=h1;simp only[vT]at h1;rw[hes];have hx':=hx;rw[aC.avc]at hx';simp only[V9,V8,h1,go_sem,seval]
 first|refine aB hx ?_|refine aB hx' ?_
 cases hd:xZ x;refine Wk ?_;rw[QL,hI2,fV,hd];rfl;simp only[aZ hb,go_sem,seval];exact⟨h0,by rw[hI,fV,hd];rfl⟩
theorem c25(hf:pg.fs 25=some aEc)(h40:pg.fs 40=some WC)(h41:pg.fs 41=some aAP)(h42:pg.fs 42=some RE)(h56:pg.fs 56=some MW)(h26:pg.fs 26=some RP)(p:aC)(hp:p.ok):Ret pg 25 [p.av] (.bool (DD p)):=by
 have a1:=c40 h40 p hp;have a2:=c41 h41 h42 h56 h26 p hp;rw[aC.avc]at a1 a2;refine Ret.ofX hf ?_;unfold aEc
 repeat' (first|simp only[*,go_sem,seval]|refine bB (λ_=>?_) (λ_=>?_)|refine bD (λ_=>?_) (λ_=>?_)|(refine aB a1 ?_)|(refine aB a2 ?_)|refine aY ?_)
 all_goals (simp_all [DD])
 all_goals (try (intros;omega))
theorem c8(hf:pg.fs 8=some cf8)(h25:∀p:aC,p.ok->Ret pg 25 [p.av] (.bool (DD p)))(h26:pg.fs 26=some RP)(h27:∀t:Typ,Ret pg 27 [t.av] (.bool (AF t)))(k:aA)(hk:∀q∈k.aSf.es,q.body.ok/\q.index.ok):Ret pg 8 [k.av] (.bool (qT k)):=by
 have hb:=k.aSf.ok;have hv:=k.aSe.ok;refine Ret.ofX hf ?_;unfold cf8;simp only[aA.av,go_sem,seval];refine fJ k.aSf.es (λd e=>fP e (some 3) (.int .i64 d.length)) (λd r hp=>hp.get 1=some (0,.blk (JB k k.aSf.es k.aSe.es) 6 true true false)/\k.aSf.es.all JN=r.all JN) rfl ?_ ?_ ?_;exact⟨by simp only[go_sem,seval];rfl,rfl⟩
 ·rintro hp ⟨h1,hI⟩;have h0:=h1;simp only[JB]at h1;simp only[aDo,aDm,h1,go_sem,seval];refine fJ k.aSe.es (λd e=>fP e (some 4) (.int .i64 d.length)) (λd r hp=>hp.get 1=some (0,.blk (JB k k.aSf.es k.aSe.es) 6 true true false)/\k.aSe.es.all AF=r.all AF) rfl ?_ ?_ ?_;exact⟨h0,rfl⟩
  ·rintro hp ⟨h1,hI2⟩;simp only[JB]at h1
   repeat' (first|simp only[aDn,aDl,h1, *,go_sem,seval]|refine bB (λ_=>?_) (λ_=>?_)|refine bD (λ_=>?_) (λ_=>?_)|refine aY ?_)
   all_goals (clear h1 h25 h26 h27 hb hv hf)
   all_goals (rw[qT,hI,hI2])
   all_goals (simp_all)
   all_goals (try (intros;omega))
  rintro d x r hp hes ⟨h1,hI2⟩;have hx:=h27 x;rw[Typ.avc]at hx;have hI3:=hI2;rw[hes]at hv hI2 h1;have h0:=h1;simp only[JB]at h1;rw[hes];simp only[aDn,aDl,h1,go_sem,seval];refine aB (hx) ?_;cases hd:AF x;refine Wk ?_;rw[qT,hI,hI3,fV,hd];simp;simp only[aZ hv,go_sem,seval];exact⟨h0,by rw[hI2,fV,hd];rfl⟩
 ·rintro d x r hp hes ⟨h1,hI⟩;obtain⟨x1,x2⟩:=hk x (by rw[hes];simp);have a1:=h25 x.body x1;have a2:=h25 x.index x2;have a3:=c26 h26 x.fn.nl x.fn.cl x.fn.es x.fn.ok;rw[aC.avc]at a1 a2;have hI3:=hI;rw[hes]at hb hI h1;have h0:=h1;simp only[JB]at h1;have hf8:qT k=(JN x&&(r.all JN&&(k.aSe.es.all AF&&(decide ((k.aSf.es.length:Int)<=16)&&decide ((k.aSe.es.length:Int)<=20)&&decide ((k.vars.es.length:Int)<=13)&&decide ((k.aSk.es.length:Int)<=12)&&decide ((k.results.es.length:Int)<=10))))):=by rw[qT,hI3,fV,Bool.and_assoc]
  rw[hes];have hw:=aZ hb;rw[fV]at hI;have hq:JN x=(DD x.body&&DD x.index && !decide (8<(x.space.es.length:Int))&&DC x.fn.es):=rfl;rw[hq]at hf8 hI;clear hq hI3 hes;clear h25 h27 hk
  repeat' (first|simp only[aDo,aDm,hw, *,go_sem,seval]|refine bB (λ_=>?_) (λ_=>?_)|refine bD (λ_=>?_) (λ_=>?_)|(refine aB a1 ?_)|(refine aB a2 ?_)|(refine aB a3 ?_)|refine aY ?_)
  all_goals (first|(simp_all;done)|skip)
end
end
end Go.Tev
