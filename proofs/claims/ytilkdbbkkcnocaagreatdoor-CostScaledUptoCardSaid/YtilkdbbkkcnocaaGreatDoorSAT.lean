import Derived.Test.YtilkdbbkkcnocaaGreatDoorSAS
set_option linter.all false
namespace Go.Tev
section
theorem wru{n:Nat}(h:n<=big):wr .u64 (n:Int)=n:=by simp only[big]at h;simp only[wr];rw[if_pos ⟨by omega,by omega⟩]
theorem W3{n:Nat}(h:n<=big):bits IntKind.u64 (λx1 x2=>x1 &&& x2) (n:Int) 4294967295 = .int .u64 n:=by
 simp only[big]at h;have e2:(BitVec.ofInt 64 (n:Int) &&& BitVec.ofInt 64 4294967295).toNat=n:=by
  rw[BitVec.toNat_and];have e3:(BitVec.ofInt 64 4294967295).toNat=2 ^ 32-1:=by decide
  have e4:(BitVec.ofInt 64 (n:Int)).toNat=n:=by rw[BitVec.toNat_ofInt];omega
  rw[e3,e4,Nat.and_two_pow_sub_one_eq_mod];omega
 show AV.int .u64 (IntKind.u64.wrap ((BitVec.ofInt 64 (n:Int) &&& BitVec.ofInt 64 4294967295).toNat:Int))=_;rw[e2];have:=wru (n:=n) (by simp only[big];omega);congr 1;simp only[IntKind.wrap,IntKind.signed,IntKind.bits,Bool.false_and,Bool.false_eq_true,if_false];omega
theorem AF{a b:Int}(h:bits IntKind.u64 (λx1 x2=>x1 &&& x2) a 4294967295 = .int .u64 b):JP .and [.int .u64 a,.int .u64 4294967295]=some (.int .u64 b,.pat [] []):=by rw[<-h];rfl
def fl2(n:Nat)(x y:AV):List AV:=(List.replicate n [x,y]).flatten
theorem uE(n:Nat)(x y:AV):(fl2 n x y).length=n*2:=by
 induction n with
 |zero=>rfl
 |succ n ih=>simp only[fl2,List.replicate_succ,List.flatten_cons,cO,List.length_cons,List.length_nil]at *;omega
theorem uF(m n:Nat)(x y:AV):fl2 (m+n) x y=fl2 m x y++fl2 n x y:=by simp only[fl2];rw[<-List.replicate_append_replicate,List.flatten_append]
theorem AB{m n:Nat}(h:m<=n)(x y:AV)(tl:List AV):(fl2 n x y++tl).take (m*2)=fl2 m x y:=by
 obtain⟨k,rfl⟩:∃k,n=m+k:=⟨n-m,by omega⟩
 rw[uF,List.append_assoc,List.take_append_of_le_length (by rw[uE];exact Nat.le_refl _),List.take_of_length_le (by rw[uE];exact Nat.le_refl _)]
theorem JK{m n:Nat}(h:m<=n)(x y:AV)(tl:List AV):(fl2 n x y++tl).drop (m*2)=fl2 (n-m) x y++tl:=by
 obtain⟨k,rfl⟩:∃k,n=m+k:=⟨n-m,by omega⟩
 rw[uF,List.append_assoc,List.drop_left' (uE m x y),Nat.add_sub_cancel_left]
theorem ZE(l:List AV)(n:Nat)(a b:Int)(h:∀v∈l,v = .agg [.int .i64 a,.int .i64 b])(hn:l.length=n):aP 2 true l=some (fl2 n (.int .i64 a) (.int .i64 b)):=by
 subst hn
 induction l with
 |nil=>rfl
 |cons v r ih=>have hv:=h v (by simp);subst hv;have ih':=ih (λw hw=>h w (bT _ hw));simp only[List.length_cons];rw[show r.length+1=1+r.length from by omega,uF];simp[aP,ih',AV.fits,fl2,AV.cells];rfl
theorem ZI{h:Hp}{k e esz:Nat}{ag ti:Bool}{cs es:List AV}(hg:h.get k=some (e,.blk cs esz ag ti false))(hu:aP esz ag es=some cs)(he:∀x∈es,El esz ag x) :
  Tev.conv h (.rf k e 0 es.length es.length)=some (.os es esz ag):=by
 obtain⟨cs',h1,h2,h3,h4⟩:=bU he;rw[hu]at h1;cases h1;have h5:=h4 [];rw[List.append_nil]at h5;simp[Tev.conv,hg,h5,HZ he]
def rep(x y:AV)(V n:Nat):List AV:=fl2 n x y++fl2 (V-n) (.int .i64 0) (.int .i64 0)
theorem E8(x y:AV){V n:Nat}(h:n<=V):(rep x y V n).length=V*2:=by simp only[rep,cO,uE];omega
theorem TL(x y:AV){V n m:Nat}(h:n<=V)(hm2:m<=V-n):eF (rep x y V n) (n*2) (fl2 m x y)=rep x y V (n+m):=by
 simp only[eF,rep];rw[AB (Nat.le_refl n),uE,<-Nat.add_mul];rw[Nat.add_mul,<-List.drop_drop,JK (Nat.le_refl n),Nat.sub_self];have:fl2 (V-n) (.int .i64 0) (.int .i64 0)=fl2 (V-n) (.int .i64 0) (.int .i64 0)++[]:=by simp
 rw[show fl2 0 x y=[] from rfl,List.nil_append,this,JK hm2,uF,List.append_nil];congr 2;omega
theorem PU{h:Hp}{x y src:AV}{V n j cap off:Nat}{rd:List Nat}(hn:n<=V)(hg:h.get 5=some (0,.blk (rep x y V n) 2 true true false))(hs:bM h 2 true src=some (fl2 j x y,j,rd))(ho:V-n=0/\off<=V*2\/off=n*2) :
  DF h 2 true [.rf 5 0 off (V-n) cap,src]=some (.int .i64 (min j (V-n):Nat),.pat (5::rd) [⟨5,0,.blk (rep x y V (n+min j (V-n))) 2 true true false⟩]):=by
 have hl:=E8 x y hn;simp only[DF,hg,hs];rw[if_pos ⟨trivial,by omega⟩];have ht:(fl2 j x y).take (min j (V-n)*2)=fl2 (min j (V-n)) x y:=by have:=AB (Nat.min_le_left j (V-n)) x y [];rwa [List.append_nil]at this
 rw[ht];rcases ho with ⟨h0,hoff⟩|rfl;rw[h0,Nat.min_zero,show fl2 0 x y=[] from rfl];simp[eF];rw[TL x y hn (Nat.min_le_right _ _)]
theorem MU(n:Nat)(a b:Int):bC (fl2 n (.int .i64 a) (.int .i64 b))=true:=by
 induction n with
 |zero=>rfl
 |succ n ih=>rw[show n+1=1+n from by omega,uF];simp only[fl2]at ih;simp[fl2,bC,ih];exact⟨rfl,rfl⟩
theorem aFo{h:Hp}{cs:List AV}{n j:Nat}(hg:h.get 5=some (0,.blk cs 2 true true false))(hj:j<n):oZ h 2 true false false [.rf 5 0 0 n n,.int .i64 j]=some (.rf 5 0 (j*2) (n-j) (n-j),.pat [5] []):=by simp only[oZ,jG,kQ,hg,Bool.false_eq_true,if_false,if_true,Option.getD_none,Option.getD_some];rw[if_pos ⟨trivial,trivial,by omega,by omega,by omega,by omega,by simp,.inr (.inr trivial)⟩,if_neg (by omega)];simp
theorem aFp{h:Hp}{cs:List AV}{n j:Nat}(hg:h.get 5=some (0,.blk cs 2 true true false))(hj:j<=n):oZ h 2 false true false [.rf 5 0 0 n n,.int .i64 j]=some (.rf 5 0 0 j n,.pat [5] []):=by simp only[oZ,jG,kQ,hg,Bool.false_eq_true,if_false,if_true,Option.getD_none,Option.getD_some];rw[if_pos ⟨trivial,trivial,by omega,by omega,by omega,by omega,by simp,.inl trivial⟩];simp
section
variable{pg:Pg}
theorem c73(hf:pg.fs 73=some R6)(n:Nat)(hn:n<=big):Ret pg 73 [.int .u64 1,.int .u64 n] (.tup [.int .u64 0,.int .u64 n]):=by
 refine Ret.ofX hf ?_;unfold R6;have m0:bits IntKind.u64 (λx1 x2=>x1 &&& x2) 0 4294967295 = .int .u64 0:=by rfl
 have m1:bits IntKind.u64 (λx1 x2=>x1 &&& x2) 1 4294967295 = .int .u64 1:=by rfl
 have mn:bits IntKind.u64 (λx1 x2=>x1 &&& x2) (n:Int) 4294967295 = .int .u64 n:=W3 hn;have s0:Int.fdiv 0 (2 ^ min 32 64)=0:=by decide
 have s1:Int.fdiv 1 (2 ^ min 32 64)=0:=by decide
 have sn:(n:Int).fdiv (2 ^ min 32 64)=0:=by
  simp only[big]at hn;rw[Int.fdiv_eq_ediv_of_nonneg _ (by decide)]
  exact Int.ediv_eq_zero_of_lt (by omega) (by have:(2 ^ min 32 64:Int)=4294967296:=by decide
                                              omega)
 have wn:wr .u64 (n:Int)=n:=wru hn;have w0:wr .u64 0=0:=by rfl
 simp only[↓AF m0,↓AF m1,↓AF mn,s0,s1,sn,wn,w0,Int.one_mul,Int.zero_mul,Int.mul_zero,Int.zero_add,Int.add_zero,go_sem,seval]
theorem c47(hf:pg.fs 47=some WC)(h73:pg.fs 73=some R6)(n:Nat)(hn:n<=big):Ret pg 47 [.int .u64 1,.int .u64 n] (.tup [.int .u64 0,.int .u64 n]):=by refine Ret.ofX hf ?_;unfold WC;refine Wk ?_;refine aC (c73 h73 n hn) ?_;simp only[go_sem,seval]
theorem c29(hf:pg.fs 29=some aBd)(h47:pg.fs 47=some WC)(h73:pg.fs 73=some R6)(nl cl:Bool)(a b:Int)(n:Nat)(hn:n<=big) :
  bV pg 29 [.sl nl [.agg [.int .i64 a,.int .i64 b]] cl,.int .i64 n] (pH 2 true (List.replicate n (.agg [.int .i64 a,.int .i64 b]))):=by
 refine bV.ofX hf ?_;unfold aBd;have e0:decide ((n:Int)<0)=false:=by simp
 have w1:wr .u64 1=1:=by rfl
 have wn:wr .u64 (n:Int)=n:=wru hn;have wi:wr .i64 (n:Int)=n:=aFh (by simp only[big]at hn;omega);have l1:decide (0<(0:Int))=false:=by decide
 have l2:decide (9223372036854775807<(n:Int))=false:=by simp only[big]at hn;simp;omega
 have hn':((n:Int)<=1073741824)=True:=by simp only[big]at hn;simp;omega
 have hfl:(List.replicate n [AV.int IntKind.i64 0,AV.int IntKind.i64 0]).flatten=rep (.int .i64 a) (.int .i64 b) n 0:=by simp[rep,fl2]
 have hl0:(0+n*2<=(rep (.int .i64 a) (.int .i64 b) n 0).length)=True:=eq_true (by rw[E8 _ _ (Nat.zero_le n)];omega);simp only[e0,w1,wn,wi,go_sem,seval];refine aC (c47 h47 h73 n hn) ?_
 have hc0:=PU (h:=Hp.put [] 5 0 (.blk (rep (.int .i64 a) (.int .i64 b) n 0) 2 true true false)) (x:=.int .i64 a) (y:=.int .i64 b) (src:=.sl nl [.agg [.int .i64 a,.int .i64 b]] cl) (V:=n) (n:=0) (j:=1) (cap:=n) (off:=0) (rd:=[]) (Nat.zero_le n) (by simp only[go_sem,seval])
  (by simp[bM,aP,AV.fits,fl2,AV.cells];rfl) (.inr rfl)
 rw[Nat.sub_zero,Nat.zero_add]at hc0;simp only[wi,l2,hn',hfl,↓hc0,go_sem,seval];refine kV (α:=Nat) (λj=>n-j) (λj env hp=>env=NW (.rf 5 0 0 n n) (.int .i64 j)/\j<=n/\(0<n->0<j)/\hp.get 5=some (0,.blk (rep (.int .i64 a) (.int .i64 b) n j) 2 true true false)) (min 1 n) ?_ ?_;refine⟨rfl,by omega,by omega,?_⟩;simp only[go_sem,seval];rintro j env hp ⟨rfl,hj,hj0,hg⟩;by_cases hjn:j<n;have e1:decide ((j:Int)<(n:Int))=true:=by simp;omega
 have e2:((j:Int)<=(n:Int))=True:=eq_true (by omega);have hsr:bM hp 2 true (.rf 5 0 0 j n)=some (fl2 j (.int .i64 a) (.int .i64 b),j,[5]):=by
  have ht:((rep (.int .i64 a) (.int .i64 b) n j).drop 0).take (j*2)=fl2 j (.int .i64 a) (.int .i64 b):=by rw[List.drop_zero,rep];exact AB (Nat.le_refl j) _ _ _
  simp only[bM,hg];rw[ht,if_pos ⟨trivial,by rw[E8 _ _ hj];omega,MU _ _ _⟩]
 have hc:=PU (cap:=n-j) hj hg hsr (.inr rfl);have hw:wr .i64 ((j:Int)+(min j (n-j):Nat))=((j+min j (n-j):Nat):Int):=by simp only[big]at hn;rw[fZ (by omega) (by omega)];omega
 simp only[NV,NW,e1,e2,↓aFo hg hjn,↓aFp hg hj,↓hc,hw,go_sem,seval];refine cN ?_;refine⟨j+min j (n-j),by omega,?_,by omega,by omega,?_⟩;rfl;simp only[go_sem,seval];obtain rfl:j=n:=by omega
 have e1:decide ((j:Int)<(j:Int))=false:=by simp
 simp only[NV,NW,e1,hg,go_sem,seval];have hu:=ZE (List.replicate j (.agg [.int .i64 a,.int .i64 b])) j a b (λv hv=>(List.mem_replicate.1 hv).2) (by simp);have hcv:=ZI (es:=List.replicate j (.agg [.int .i64 a,.int .i64 b])) hg (by rw[hu,rep,Nat.sub_self];simp[fl2]) (λv hv=>by rw[(List.mem_replicate.1 hv).2];exact⟨rfl,rfl,rfl⟩);rw[aFg]at hcv;exact⟨_,hcv,.inr rfl⟩
end
end
section
def AD(l:Lin):Bool:=(l.ts.es.all λc => !decide (35<(c.v.bs.length:Int)))&&decide ((l.ts.es.length:Int)<=14)
def JL(s:cB):Bool:=(s.dims.es.all AD)&&(decide ((s.dims.es.length:Int)<=8)&&decide ((s.row.bs.length:Int)<=35))
def DE(l:List aE):Bool:=(l.all λs => !(decide (4<(s.args.es.length:Int))||decide (20<(s.op.bs.length:Int))))&&decide ((l.length:Int)<=10)
def pU(p:aA)(l:List aA):List AV:=
 [.str p.op.bs,.int .i64 p.num,.int .i64 p.value,.str p.name.bs,.sl p.at_.nl (p.at_.es.map Lin.av) p.at_.cl,.bool p.dyn,.int .i64 p.check,.sl p.fn.nl (p.fn.es.map aE.av) p.fn.cl,.sl p.knl (l.map aA.av) p.kcl]
mutual
def rV:aA->Bool
 |.mk op _ _ name at_ _ _ fn _ kids _=>AE kids&&(JL ⟨⟨[],by decide⟩,at_⟩&&DE fn.es&&decide ((name.bs.length:Int)<=35)&&decide ((op.bs.length:Int)<=20))
def AE:List aA->Bool
 |[]=>true
 |p::r=>rV p&&AE r
end
theorem DD:∀l,AE l=l.all rV
 |[]=>by simp[AE]
 |p::r=>by simp[AE,DD r]
theorem JM(p:aA):rV p=(p.kids.all rV&&(JL ⟨⟨[],by decide⟩,p.at_⟩&&DE p.fn.es&&decide ((p.name.bs.length:Int)<=35)&&decide ((p.op.bs.length:Int)<=20))):=by cases p;rw[rV,DD];rfl
def PA(p:aA):Bool:=decide (kR p<=60)&&rV p
section
variable{pg:Pg}
theorem c56(hf:pg.fs 56=some KI)(l:Lin):Ret pg 56 [l.av] (.bool (AD l)):=by have hb:=l.ts.ok;refine Ret.ofX hf ?_;unfold KI;refine Wk ?_;refine eJ l.ts.es (λd e=>eH e (some 3) (.int .i64 d.length)) (λd r hp=>hp.get 1=some (0,.blk [.int .i64 l.c,.sl l.ts.nl (l.ts.es.map aR.av) l.ts.cl] 2 true true false)/\(l.ts.es.all λc => !decide (35<(c.v.bs.length:Int)))=(r.all λc => !decide (35<(c.v.bs.length:Int)))) rfl ?_ ?_ ?_;simp only[go_sem,seval];rintro hp ⟨h1,hI⟩;simp only[ND,NC,h1,go_sem,seval];simp[AD,hI];rintro d x r hp hes ⟨h1,hI⟩;rw[hes]at hb hI h1;have h0:=h1;rw[hes];simp only[ND,NC,h1,go_sem,seval];cases hd:decide (35<(x.v.bs.length:Int));simp only[cQ hb,go_sem,seval];exact⟨h0,by simpa[hd] using hI⟩;refine Wk ?_;simp only[AD,hes,hI,List.all_cons,hd];rfl
theorem c42(hf:pg.fs 42=some NL)(h56:pg.fs 56=some KI)(s:cB):Ret pg 42 [s.av] (.bool (JL s)):=by
 have hb:=s.dims.ok;refine Ret.ofX hf ?_;unfold NL;refine Wk ?_;refine eJ s.dims.es (λd e=>eH e (some 3) (.int .i64 d.length)) (λd r hp=>hp.get 1=some (0,.blk [.str s.row.bs,.sl s.dims.nl (s.dims.es.map Lin.av) s.dims.cl] 2 true true false)/\(s.dims.es.all AD)=(r.all AD)) rfl ?_ ?_ ?_;simp only[go_sem,seval]
 ·rintro hp ⟨h1,hI⟩
  repeat' (first|simp only[NK,NJ,h1, *,go_sem,seval]|refine bW (λ_=>?_) (λ_=>?_)|refine bZ (λ_=>?_) (λ_=>?_)|refine cN ?_)
  all_goals (simp_all [JL])
  all_goals (intro h;omega)
 rintro d x r hp hes ⟨h1,hI⟩;have hx:=c56 h56 x;rw[Lin.avc]at hx;rw[hes]at hb hI h1;have h0:=h1;rw[hes];simp only[NK,NJ,h1,go_sem,seval];refine aC (hx) ?_;cases hd:AD x;refine Wk ?_;simp only[JL,hes,hI,List.all_cons,hd];rfl;simp only[cQ hb,go_sem,seval];exact⟨h0,by simpa[hd] using hI⟩
theorem c26(hf:pg.fs 26=some NZ)(nl cl:Bool)(l:List aE)(hb:l.length<=big):Ret pg 26 [.sl nl (l.map aE.av) cl] (.bool (DE l)):=by
 refine Ret.ofX hf ?_;unfold NZ;refine Wk ?_;refine eJ l (λd e=>eH e (some 3) (.int .i64 d.length)) (λd r hp=>(l.all λs => !(decide (4<(s.args.es.length:Int))||decide (20<(s.op.bs.length:Int))))=(r.all λs => !(decide (4<(s.args.es.length:Int))||decide (20<(s.op.bs.length:Int))))) rfl ?_ ?_ ?_;rfl
 ·rintro hp hI
  repeat' (first|simp only[NY,NX, *,go_sem,seval]|refine bW (λ_=>?_) (λ_=>?_)|refine bZ (λ_=>?_) (λ_=>?_)|refine cN ?_)
  all_goals (simp_all [DE])
 rintro d x r hp hes hI;rw[hes]at hb hI;rw[hes];simp only[NY,NX,go_sem,seval];cases hd:decide (4<(x.args.es.length:Int));refine Wk ?_;cases hd2:decide (20<(x.op.bs.length:Int));simp only[cQ hb,go_sem,seval];simpa[hd,hd2] using hI;refine Wk ?_;simp only[DE,hes,hI,List.all_cons,hd,hd2];rfl;refine Wk ?_;simp only[DE,hes,hI,List.all_cons,hd];rfl
theorem c40(hf:pg.fs 40=some NQ):∀p:aA,p.ok->Ret pg 40 [p.av] (.int .i64 (kR p)):=by refine aA.ind' λp ih hp=>?_;obtain⟨hb,hk⟩:=(aA.ok_iff p).1 hp;refine Ret.ofX hf ?_;unfold NQ;refine Wk ?_;refine eJ p.kids (λd e=>eH (eH e (some 4) (.int .i64 d.length)) (some 3) (.int .i64 (jH 1 d))) (λd r hp=>hp.get 1=some (0,.blk p.cells 9 true true false)) (by simp only[jH];rfl) ?_ ?_ ?_;refine Wk ?_;rfl;rintro hp h1;simp only[aA.cells,Sl.av,aA.kav]at h1;simp only[NP,NO,h1,go_sem,seval];exact(CO p).symm;rintro d x r hp hes h1;have h0:=h1;simp only[aA.cells,Sl.av,aA.kav]at h1;have hx:=ih x (by rw[hes];simp) (hk x (by rw[hes];simp));rw[hes]at hb h1;rw[hes];have h2:hp.get 1=some (0,.blk [.str p.op.bs,.int .i64 p.num,.int .i64 p.value,.str p.name.bs,.sl p.at_.nl (p.at_.es.map Lin.av) p.at_.cl,.bool p.dyn,.int .i64 p.check,.sl p.fn.nl (p.fn.es.map aE.av) p.fn.cl,.sl p.knl ((d++x::r).map aA.av) p.kcl] 9 true true false):=h1;simp only[NP,NO,h2,go_sem,seval];refine aC (hx) ?_;simp only[cQ hb,pV,go_sem,seval];exact h0
theorem c41(hf:pg.fs 41=some R8)(h42:pg.fs 42=some NL)(h56:pg.fs 56=some KI)(h26:pg.fs 26=some NZ):∀p:aA,p.ok->Ret pg 41 [p.av] (.bool (rV p)):=by
 refine aA.ind' λp ih hp=>?_;obtain⟨hb,hk⟩:=(aA.ok_iff p).1 hp;have a1:=c42 h42 h56 ⟨⟨[],by decide⟩,p.at_⟩;have a2:=c26 h26 p.fn.nl p.fn.cl p.fn.es p.fn.ok;rw[cB.avc]at a1;refine Ret.ofX hf ?_;unfold R8;refine Wk ?_;refine eJ p.kids (λd e=>eH e (some 3) (.int .i64 d.length)) (λd r hp=>hp.get 1=some (0,.blk (pU p p.kids) 9 true true false)/\p.kids.all rV=r.all rV) rfl ?_ ?_ ?_;exact⟨by simp only[go_sem,seval];rfl,rfl⟩
 ·rintro hp ⟨h1,hI⟩;simp only[pU]at h1
  repeat' (first|simp only[NN,NM, *,go_sem,seval]|refine bW (λ_=>?_) (λ_=>?_)|refine bZ (λ_=>?_) (λ_=>?_)|(refine aC a1 ?_)|(refine aC a2 ?_)|refine cN ?_)
  all_goals (clear h1 a1 a2 hf h42 h56 h26 ih)
  all_goals (rw[JM,hI])
  all_goals (simp_all)
  all_goals (try (intros;omega))
 rintro d x r hp hes ⟨h1,hI⟩;have hx:=ih x (by rw[hes];simp) (hk x (by rw[hes];simp));have hI2:=hI;rw[hes]at hb hI h1;have h0:=h1;simp only[pU]at h1;rw[hes];have hx':=hx;rw[aA.avc]at hx';simp only[NN,NM,h1,go_sem,seval]
 first|refine aC hx ?_|refine aC hx' ?_
 cases hd:rV x;refine Wk ?_;rw[JM,hI2,List.all_cons,hd];rfl;simp only[cQ hb,go_sem,seval];exact⟨h0,by rw[hI,List.all_cons,hd];rfl⟩
theorem c25(hf:pg.fs 25=some WF)(h40:pg.fs 40=some NQ)(h41:pg.fs 41=some R8)(h42:pg.fs 42=some NL)(h56:pg.fs 56=some KI)(h26:pg.fs 26=some NZ)(p:aA)(hp:p.ok):Ret pg 25 [p.av] (.bool (PA p)):=by
 have a1:=c40 h40 p hp;have a2:=c41 h41 h42 h56 h26 p hp;rw[aA.avc]at a1 a2;refine Ret.ofX hf ?_;unfold WF
 repeat' (first|simp only[*,go_sem,seval]|refine bW (λ_=>?_) (λ_=>?_)|refine bZ (λ_=>?_) (λ_=>?_)|(refine aC a1 ?_)|(refine aC a2 ?_)|refine cN ?_)
 all_goals (simp_all [PA])
 all_goals (try (intros;omega))
end
end
section
def fG(q:aK):List Int:=sK q.body++if decide (q.kind=3) then sK q.index++[q.source] else []
theorem zD(p:aA):(sK p).length<=p.sz:=by have e1:=vP (mU (l9 p));have e2:=u7 (l9 p);have e3:=zE p;simp only[sK];omega
section
variable{pg:Pg}{kb:Nat}
end
section
variable{pg:Pg}
end
end
section
abbrev Sp:=Int×Int
def xF(s:Sp):AV:=.agg [.int .i64 s.1,.int .i64 s.2]
def bP:List Sp->List AV
 |[]=>[]
 |s::r => .int .i64 s.1 :: .int .i64 s.2::bP r
theorem iC:∀l,(bP l).length=l.length*2
 |[]=>rfl
 |s::r=>by simp only[bP,List.length_cons,iC r];omega
theorem sG:∀l,aP 2 true (l.map xF)=some (bP l)
 |[]=>rfl
 |s::r=>by simp[xF,aP,sG r,AV.fits,bP,AV.cells];rfl
theorem OM(l:List Sp):∀x∈l.map xF,El 2 true x:=by intro x hx;obtain⟨b,_,rfl⟩:=List.mem_map.1 hx;exact⟨rfl,rfl,rfl⟩
theorem B8:∀(l:List Sp)(v:Nat)(s:Sp),l[v]?=some s->(bP l)[v*2]?=some (.int .i64 s.1)/\(bP l)[v*2+1]?=some (.int .i64 s.2)
 |[],v,s,h=>by simp at h
 |t::r,0,s,h=>by simp at h;subst h;exact⟨rfl,rfl⟩
 |t::r,v+1,s,h=>by have:=B8 r v s (by simpa using h);rw[show (v+1)*2=v*2+1+1 from by omega];simpa[bP] using this
theorem wB:∀(l:List Sp)(v:Nat)(a b:Int),((bP l).set (v*2) (.int .i64 a)).set (v*2+1) (.int .i64 b)=bP (l.set v (a,b))
 |[],v,a,b=>by simp[bP]
 |t::r,0,a,b=>rfl
 |t::r,v+1,a,b=>by rw[show (v+1)*2=v*2+1+1 from by omega];simp only[bP,List.set_cons_succ];rw[wB r v a b]
theorem wC:∀(l:List Sp)(v:Nat)(a:Int),(bP l).set (v*2) (.int .i64 a)=bP (l.modify v (λs=>(a,s.2)))
 |[],v,a=>by simp[bP]
 |t::r,0,a=>rfl
 |t::r,v+1,a=>by rw[show (v+1)*2=v*2+1+1 from by omega];simp only[bP,List.set_cons_succ,List.modify_succ_cons];rw[wC r v a]
theorem wA:∀(l:List Sp)(v:Nat)(a:Int),(bP l).set (v*2+1) (.int .i64 a)=bP (l.modify v (λs=>(s.1,a)))
 |[],v,a=>by simp[bP]
 |t::r,0,a=>rfl
 |t::r,v+1,a=>by rw[show (v+1)*2=v*2+1+1 from by omega];simp only[bP,List.set_cons_succ,List.modify_succ_cons];rw[wA r v a]
theorem YG{h:Hp}{e:Nat}{sp:List Sp}(hg:h.get 9=some (e,.blk (bP sp) 2 true false false))(d:Nat):Tev.snap (d+2) h (.rf 9 e 0 sp.length sp.length)=some (.sl false (sp.map xF) false,[9]):=by obtain⟨cs',h1,h2,h3,h4⟩:=bU (OM sp);rw[sG]at h1;cases h1;have h5:=h4 [];rw[List.append_nil,cP]at h5;have ht:treeL (sp.map xF)=true:=bQ (f:=xF) (λs=>by simp[xF,go_sem]) sp;have h6:mapS (Tev.snap (d+1) h) (sp.map xF)=some (sp.map xF,[]):=dA d h ht;rw[fR];simp[hg,h5,h6,AV.tree]
def nV(sp:List Sp)(v:Int)(x:Int):List Sp:=sp.modify v.toNat (λs=>(s.1,x))
def mV(sp:List Sp)(v:Int)(x:Int):List Sp:=sp.modify v.toNat (λs=>(x,s.2))
def AA(sp:List Sp)(v:Int):Int:=match sp[v.toNat]? with|some s=>s.1|none=>0
def eW(V i:Nat):List Sp:=List.replicate i (-1,-1)++List.replicate (V-i) (-2,-2)
def iJ(sp:List Sp)(i:Nat)(l:List Int):List Sp:=l.foldl (λs v=>nV s v i) sp
def yW(sp:List Sp)(i:Nat)(q:aK):List Sp:=
 iJ (nV (if decide (AA sp q.value = -2) then mV sp q.value i else sp) q.value i) i (fG q)
def lL:List Sp->Nat->List aK->List Sp
 |sp,_,[]=>sp
 |sp,i,q::r=>lL (yW sp i q) (i+1) r
def rS(sp:List Sp)(n:Nat)(l:List Int):List Sp:=l.foldl (λs v=>nV s v n) sp
def yV(k:aF):List Sp:=rS (lL (eW k.values.es.length k.inputs.toNat) 0 k.list.es) k.list.es.length k.results.es
theorem qQ(sp:List Sp)(v x:Int):(nV sp v x).length=sp.length:=by simp[nV]
theorem pN(sp:List Sp)(v x:Int):(mV sp v x).length=sp.length:=by simp[mV]
theorem jM(i:Nat):∀(l:List Int)(sp:List Sp),(iJ sp i l).length=sp.length
 |[],sp=>rfl
 |v::r,sp=>by simp only[iJ,List.foldl_cons];exact(jM i r _).trans (qQ _ _ _)
theorem tJ(sp:List Sp)(i:Nat)(d:List Int)(x:Int):iJ sp i (d++[x])=nV (iJ sp i d) x i:=by simp[iJ]
theorem LV(sp:List Sp)(i:Nat)(q:aK):(yW sp i q).length=sp.length:=by simp only[yW,jM,qQ];split<;>simp[pN]
theorem qO:∀(l:List aK)(sp:List Sp)(i:Nat),(lL sp i l).length=sp.length
 |[],sp,i=>rfl
 |q::r,sp,i=>by rw[lL,qO r,LV]
theorem yX:∀(d:List aK)(sp:List Sp)(i:Nat)(q:aK),lL sp i (d++[q])=yW (lL sp i d) (i+d.length) q
 |[],sp,i,q=>rfl
 |x::r,sp,i,q=>by simp only[List.cons_append,lL,yX r,List.length_cons];congr 1;omega
theorem l7{V i:Nat}(h:i<=V):(eW V i).length=V:=by simp[eW];omega
theorem LW{V i:Nat}(h:i<V):(eW V i).set i (-1,-1)=eW V (i+1):=by
 obtain⟨m,rfl⟩:∃m,V=i+(m+1):=⟨V-i-1,by omega⟩
 simp only[eW];rw[List.set_append_right _ _ (by simp)];have e1:i+(m+1)-i=m+1:=by omega
 have e2:i+(m+1)-(i+1)=m:=by omega
 rw[e1,e2,List.replicate_succ (n:=m),List.replicate_succ' (n:=i)];simp
theorem mX{k:aF}{th:List Bool}{p:aA}{n:Nat}{nt:Int}(h:qR k th p n nt=true):∀a∈sK p,0<=a/\a<k.values.es.length/\nI th a=true/\a≠nt:=by intro a ha;simp only[qR,cU,aD,fY]at h;have h2:=h.2;rw[List.any_eq_false]at h2;have h3:=h2 a ha;simp only[Bool.or_eq_true,fY,cK,not_or,Bool.not_eq_false]at h3;have ha':=ha;simp only[sK,CS,CQ]at ha';obtain⟨h4,h5⟩:=HQ _ p _ h.1.2 a ha';exact⟨h4,h5,h3.1,h3.2⟩
theorem zV{k:aF}{th:List Bool}{q:aK}{i:Nat}(h:mJ k th q i=true):∀a∈fG q,0<=a/\a<k.values.es.length/\nI th a=true:=by
 intro a ha;simp only[mJ,aD]at h;obtain⟨_,h⟩:=h;split at h;cases h;rename_i t ht;simp only[aD,fY]at h;obtain⟨⟨⟨⟨_,_⟩,h3⟩,_⟩,h5⟩:=h;simp only[fG,jW]at ha;simp only[aCn]at h5;split at h5;rename_i h6;simp only[aD]at h5;have h7:decide (q.kind=3)=false:=by simp at h6 ⊢;omega
 rw[h7]at ha;rcases ha with ha|ha;obtain⟨x1,x2,x3,_⟩:=mX h5.2 a ha;exact⟨x1,x2,x3⟩;simp at ha;split at h5;rename_i h6;simp only[aD]at h5;have h7:decide (q.kind=3)=false:=by simp at h6 ⊢;omega
 rw[h7]at ha;rcases ha with ha|ha;obtain⟨x1,x2,x3,_⟩:=mX h5.2 a ha;exact⟨x1,x2,x3⟩;simp at ha;split at h5;rename_i h6;simp only[aD]at h5;rw[if_pos h6]at h3 ha;rcases ha with ha|ha;obtain⟨x1,x2,x3,_⟩:=mX h5.1 a ha;exact⟨x1,x2,x3⟩;rw[jW]at ha;rcases ha with ha|ha;obtain⟨x1,x2,x3,_⟩:=mX h5.2 a ha;exact⟨x1,x2,x3⟩;simp only[List.mem_singleton]at ha;subst ha;simp only[aCl,Bool.or_eq_false_iff,nH,Bool.not_eq_false']at h3;exact⟨by omega,by omega,h3.1.2⟩;cases h5
theorem CC{k:aF}:∀(l:List aK)(th:List Bool)(i:Nat),YK k th l i=none->∀d q r,l=d++q::r->mJ k (xN th d) q (i+d.length)=true
 |[],th,i,_,d,q,r,he=>by cases d<;>simp at he
 |x::l,th,i,h,d,q,r,he=>by
  simp only[YK]at h;split at h;rename_i hx;cases d with
  |nil=>simp at he;obtain⟨rfl,rfl⟩:=he;exact hx
  |cons y d=>simp at he;obtain⟨rfl,rfl⟩:=he;have:=CC _ _ _ h d q r rfl;rw[List.length_cons,show i+(d.length+1)=i+1+d.length from by omega];exact this
  cases h
structure aIo(k:aF):Prop where
 out:vC k=true
 ker:∀d q r,k.list.es=d++q::r->mJ k (xN (Y9 k) d) q d.length=true
 res:∀v∈k.results.es,0<=v/\v<k.values.es.length/\nI (xN (Y9 k) k.list.es) v=true
 one:0<k.results.es.length
theorem RP{k:aF}(h:(wP k).2=0):aIo k:=by simp only[wP]at h;split at h;rename_i ho;split at h;simp at h;rename_i hr;split at h;simp at h;rename_i hb;simp only[zA,Bool.or_eq_true,not_or,Bool.not_eq_true,cK,nH,List.any_eq_false]at hb;obtain⟨⟨h1,h2⟩,h3⟩:=hb;refine⟨ho,λd q r he=>by simpa using CC _ _ _ hr d q r he,λv hv=>?_,by omega⟩;have h4:=h3 v hv;simp only[E7,Bool.or_eq_false_iff,nH,Bool.not_eq_false',not_or,Bool.not_eq_true,Bool.or_eq_true,cK]at h4;obtain⟨⟨x1,x2⟩,x3⟩:=h4;exact⟨by omega,by omega,by simpa using x3⟩;simp at h
theorem RO{k:aF}:(wP k).2=0\/(wP k).2=22:=by simp only[wP];split;split;exact .inr rfl;split;exact .inr rfl;exact .inl rfl;exact .inr rfl
end
section
def LU(k:aF)(r:AV):Prop:=
 if (wP k).2=0 then r = .tup [.sl false ((yV k).map xF) false,.int .i64 0] else r = .tup [.sl true [] true,.int .i64 22]
theorem YI{l:List AV}{n:Nat}(x y:AV)(h:n*2+1<l.length):List.take (0+n*2) l++[x,y]++List.drop (0+n*2+2) l=(l.set (n*2) x).set (n*2+1) y:=by
 obtain⟨a,u,v,m,rfl,ha⟩:∃a u v m,l=a++u::v::m/\a.length=n*2:=by refine⟨l.take (n*2),l[n*2],l[n*2+1],l.drop (n*2+1+1),?_,by simp;omega⟩;rw[<-sD h,<-sD (by omega),List.take_append_drop]
 rw[Nat.zero_add,<-ha];simp[List.set_append]
theorem OO{l:List AV}{n:Nat}(x:AV)(h:n<l.length):List.take n l++[x]++List.drop (n+1) l=l.set n x:=by rw[List.set_eq_take_append_cons_drop,if_pos h];simp
theorem HY(sp:List Sp)(v x:Int)(h:v.toNat<sp.length):List.take (0+v.toNat*2+1) (bP sp)++[.int .i64 x]++List.drop (0+v.toNat*2+1+1) (bP sp)=bP (nV sp v x):=by rw[Nat.zero_add,OO _ (by rw[iC];omega),wA];rfl
theorem YE(sp:List Sp)(v x:Int)(h:v.toNat<sp.length):List.take (0+v.toNat*2+0) (bP sp)++[.int .i64 x]++List.drop (0+v.toNat*2+0+1) (bP sp)=bP (mV sp v x):=by rw[Nat.zero_add,Nat.add_zero,OO _ (by rw[iC];omega),wC];rfl
theorem I9(sp:List Sp)(v:Int)(h:v.toNat<sp.length):(0+v.toNat*2+1+1<=(bP sp).length)=True:=eq_true (by rw[iC];omega)
theorem Y4(sp:List Sp)(v:Int)(h:v.toNat<sp.length):(0+v.toNat*2+0+1<=(bP sp).length)=True:=eq_true (by rw[iC];omega)
theorem Y5(sp:List Sp)(v:Int)(h:v.toNat<sp.length):(bP sp)[0+v.toNat*2+0]?=some (.int .i64 (AA sp v)):=by
 obtain⟨s,hs⟩:∃s,sp[v.toNat]?=some s:=⟨_,cZ h⟩
 rw[Nat.zero_add,Nat.add_zero,(B8 sp _ s hs).1];simp[AA,hs]
section
variable{pg:Pg}
theorem c9 (hf:pg.fs 9=some cf9) (h28:∀k:aF,(k.vars.nl=true->k.vars.es=[])->(∀q∈k.list.es,q.body.ok/\q.index.ok/\k.vars.es.length+9+q.body.sz<=big/\k.vars.es.length+9+q.index.sz<=big) ->
   Ret pg 28 [k.av] (.tup [.int .i64 (wP k).1,.int .i64 (wP k).2]))
  (h29:∀(nl cl:Bool)(a b:Int)(n:Nat),n<=big->bV pg 29 [.sl nl [.agg [.int .i64 a,.int .i64 b]] cl,.int .i64 n] (pH 2 true (List.replicate n (.agg [.int .i64 a,.int .i64 b]))))
  (h30:∀q:aK,q.body.ok->q.index.ok->q.body.sz+q.index.sz+1<=big->bV pg 30 [q.av] (pH 1 false ((fG q).map aV)))
  (k:aF) (hnl:k.vars.nl=true->k.vars.es=[]) (hq:∀q∈k.list.es,q.body.ok/\q.index.ok/\k.vars.es.length+9+q.body.sz<=big/\k.vars.es.length+9+q.index.sz<=big) (hq2:∀q∈k.list.es,q.body.sz+q.index.sz+1<=big) :
  bV pg 9 [k.av] (LU k):=by
 have a1:=h28 k hnl hq;have hVb:=k.values.ok;have a2:=h29 false true (-2) (-2) k.values.es.length hVb;clear h28 h29;refine bV.ofX hf ?_;unfold cf9;simp only[aF.av,aF.cells,go_sem,seval];refine gO a1 (by simp only[aF.av,aF.cells,go_sem,seval]) rfl ?_;rcases RO (k:=k) with hc|hc;have ok:=RP hc;have hso:=ok.out;simp only[vC,aD,cK]at hso;obtain⟨_,⟨⟨⟨⟨⟨⟨_,_⟩,hi0⟩,_⟩,hiV⟩,_⟩,_⟩,_⟩:=hso;have hV:0<k.values.es.length:=by obtain⟨v,hv⟩:=List.exists_mem_of_length_pos ok.one;have:=ok.res v hv;omega
 have hsp0:List.replicate k.values.es.length (AV.agg [.int .i64 (-2),.int .i64 (-2)])=(eW k.values.es.length 0).map xF:=by simp[eW,xF]
 have hl0:(eW k.values.es.length 0).length=k.values.es.length:=l7 (Nat.zero_le _);rw[hsp0]at a2;rw[hc];refine Wk ?_;refine QD a2 (by simp only[go_sem,seval]) (OM _) (λhe=>?_) (λcs hcs _=>?_);have:=congrArg List.length he;rw[cP,hl0,List.length_nil]at this;omega;rw[sG]at hcs;cases hcs;rw[cP,hl0];generalize hE:Hp.next _ (0+9)=E;clear hE a1 a2;obtain⟨ins,hins⟩:∃n:Nat,k.inputs=n:=⟨k.inputs.toNat,by omega⟩
 have hinV:ins<=k.values.es.length:=by omega
 have hins':k.inputs.toNat=ins:=by omega
 refine Wk ?_
 refine aQ (List.range ins) (λd r env hp=>env=VZ (.pt 1 0 0) (.rf 9 E 0 k.values.es.length k.values.es.length) (.int .i64 k.inputs) (.int .i64 d.length) /\
  hp.get 1=some (0,.blk k.cells 6 true true false)/\hp.get 9=some (E,.blk (bP (eW k.values.es.length d.length)) 2 true false false)) ?_ ?_ ?_
 refine⟨rfl,?_,?_⟩;refine Wk ?_;rfl;simp only[go_sem,seval];rintro env hp ⟨rfl,g1,g9⟩;have hr:(List.range ins).length=ins:=List.length_range;rw[hr]at g9 ⊢;have e1:decide ((ins:Int)<k.inputs)=false:=by simp;omega
 have g1':=g1;simp only[aF.cells,Sl.av]at g1;simp only[VW,VZ,e1,g1,go_sem,seval]
 refine aQ k.list.es (λd r env hp=>env=VY (.pt 1 0 0) (.rf 9 E 0 k.values.es.length k.values.es.length) (.sl k.list.nl (k.list.es.map aK.av) k.list.cl) (.int .i64 k.list.es.length) (.int .i64 d.length) /\
  hp.get 1=some (0,.blk k.cells 6 true true false)/\hp.get 9=some (E,.blk (bP (lL (eW k.values.es.length ins) 0 d)) 2 true false false)) ?_ ?_ ?_
 exact⟨rfl,g1',g9⟩;clear g9 g1 g1' hp;rintro env hp ⟨rfl,g1,g9⟩;have g1':=g1;simp only[aF.cells,Sl.av]at g1;simp only[VV,VY,g1,go_sem,seval]
 refine aQ k.results.es (λd r env hp=>env=VX (.pt 1 0 0) (.rf 9 E 0 k.values.es.length k.values.es.length) (.sl k.results.nl (k.results.es.map aV) k.results.cl) (.int .i64 k.results.es.length) (.int .i64 d.length) /\
  hp.get 1=some (0,.blk k.cells 6 true true false)/\hp.get 9=some (E,.blk (bP (rS (lL (eW k.values.es.length ins) 0 k.list.es) k.list.es.length d)) 2 true false false)) ?_ ?_ ?_
 exact⟨rfl,g1',g9⟩;clear g9 g1 g1' hp;rintro env hp ⟨rfl,g1,g9⟩;have hlen:(yV k).length=k.values.es.length:=by simp only[yV];rw[show rS=λsp n l=>iJ sp n l from rfl];rw[jM,qO,hins',l7 hinV]
 have hspk:rS (lL (eW k.values.es.length ins) 0 k.list.es) k.list.es.length k.results.es=yV k:=by rw[yV,hins']
 rw[hspk]at g9;have hsn:=YG g9 61;rw[hlen]at hsn;simp only[VU,VX,go_sem,seval];simp only[Tev.conv,depth,fR,eN,bG,↓hsn,go_sem];rw[LU,if_pos hc];clear g9 g1 g1' hp;rintro d v r env hp hes ⟨rfl,g1,g9⟩;obtain⟨v1,v2,_⟩:=ok.res v (by rw[hes];simp);have hrb:=k.results.ok;rw[hes]at hrb;have hget:k.results.es[d.length]?=some v:=by rw[hes];simp
 have hlt:d.length<k.results.es.length:=by rw[hes];simp
 have e1:decide ((d.length:Int)<(k.results.es.length:Int))=true:=by simp;omega
 have e2:((d.length:Int)<(k.results.es.length:Int))=True:=eq_true (by omega);have v1':(0<=v)=True:=eq_true v1;have v2':(v<(k.values.es.length:Int))=True:=eq_true v2;have g1':=g1;simp only[aF.cells,Sl.av]at g1;have hln:(rS (lL (eW k.values.es.length ins) 0 k.list.es) k.list.es.length d).length=k.values.es.length:=by rw[show rS=λsp n l=>iJ sp n l from rfl];rw[jM,qO,l7 hinV]
 have hvl:v.toNat<(rS (lL (eW k.values.es.length ins) 0 k.list.es) k.list.es.length d).length:=by rw[hln];omega
 have hsno:nV (rS (lL (eW k.values.es.length ins) 0 k.list.es) k.list.es.length d) v k.list.es.length=rS (lL (eW k.values.es.length ins) 0 k.list.es) k.list.es.length (d++[v]):=by simp[rS]
 simp only[VU,VX,e1,e2,g1,g9,hget,v1',v2',I9 _ v hvl,HY _ v _ hvl,cQ hrb,hsno,go_sem,seval];exact⟨rfl,rfl⟩;clear g9 g1 g1' hp;rintro d q r env hp hes ⟨rfl,g1,g9⟩;obtain⟨v0,v2,_⟩:=JA (ok.ker d q r hes);have hlb:=k.list.ok;rw[hes]at hlb;have hget:k.list.es[d.length]?=some q:=by rw[hes];simp
 have hlt:d.length<k.list.es.length:=by rw[hes];simp
 have e1:decide ((d.length:Int)<(k.list.es.length:Int))=true:=by simp;omega
 have e2:((d.length:Int)<(k.list.es.length:Int))=True:=eq_true (by omega);have v1':(0<=q.value)=True:=eq_true (by omega);have v2':(q.value<(k.values.es.length:Int))=True:=eq_true v2;obtain⟨p1,p2,_,_⟩:=hq q (by rw[hes];simp);have a3:=h30 q p1 p2 (hq2 q (by rw[hes];simp));rw[aK.avc]at a3;have hrd:=zV (ok.ker d q r hes);have hrlen:(fG q).length<=big:=by have z1:=hq2 q (by rw[hes];simp);have z2:=zD q.body;have z3:=zD q.index;simp only[fG,cO];split<;>simp<;>omega
 have hrun:=yX d (eW k.values.es.length ins) 0 q;rw[Nat.zero_add]at hrun;rw[hrun];have hln:(lL (eW k.values.es.length ins) 0 d).length=k.values.es.length:=by rw[qO,l7 hinV]
 generalize lL (eW k.values.es.length ins) 0 d=sp at g9 hln ⊢;have hvl:q.value.toNat<sp.length:=by omega
 have hvl2:q.value.toNat<(mV sp q.value d.length).length:=by rw[pN];exact hvl
 have hst:yW sp d.length q=iJ (nV (if decide (AA sp q.value = -2) then mV sp q.value d.length else sp) q.value d.length) d.length (fG q):=rfl;rw[hst];clear hst hrun h30 hq hq2;simp only[VV,VY,e1,e2,g9,hget,v1',v2',Y5 sp q.value hvl,go_sem,seval];cases hfr:decide (AA sp q.value = -2)
 case true=>
  simp only[g9,v1',v2',Y4 sp _ hvl,YE sp _ _ hvl,I9 _ _ hvl2,HY _ _ _ hvl2,go_sem,seval];refine EH a3 (by simp only[go_sem,seval]) ?_;intro nl3 cl3 _;refine Wk ?_
  refine aQ (fG q) (λd2 r2 env hp=>env=DP (.pt 1 0 0) (.rf 9 E 0 k.values.es.length k.values.es.length) (.int .i64 d.length) (.sl k.list.nl (k.list.es.map aK.av) k.list.cl) (.int .i64 k.list.es.length) (.int .i64 d.length) (.sl nl3 ((fG q).map aV) cl3) (.int .i64 (fG q).length) (.int .i64 d2.length) /\
   hp.get 1=some (0,.blk k.cells 6 true true false)/\hp.get 9=some (E,.blk (bP (iJ (nV (mV sp q.value d.length) q.value d.length) d.length d2)) 2 true false false)) ?_ ?_ ?_
  refine⟨rfl,?_,?_⟩;refine Wk ?_;exact g1;refine Wk ?_;rfl;clear g9 g1 hp;rintro env hp ⟨rfl,g1,g9⟩;simp only[J0,DP,cQ hlb,go_sem,seval]
  first|exact⟨rfl,g1,g9⟩
  clear g9 g1 hp;rintro d2 v r2 env hp hes2 ⟨rfl,g1,g9⟩;obtain⟨w1,w2,_⟩:=hrd v (by rw[hes2];simp);have hget2:(fG q)[d2.length]?=some v:=by rw[hes2];simp
  have hlt2:d2.length<(fG q).length:=by rw[hes2];simp
  have f1:decide ((d2.length:Int)<((fG q).length:Int))=true:=by simp;omega
  have f2:((d2.length:Int)<((fG q).length:Int))=True:=eq_true (by omega);have w1':(0<=v)=True:=eq_true w1;have w2':(v<(k.values.es.length:Int))=True:=eq_true w2;have hvl3:v.toNat<(iJ (nV (mV sp q.value d.length) q.value d.length) d.length d2).length:=by rw[jM,qQ];rw[pN];omega
  have hrb2:(d2++v::r2).length<=big:=by rw[<-hes2];exact hrlen
  simp only[J0,DP,f1,f2,g9,hget2,w1',w2',I9 _ v hvl3,HY _ v _ hvl3,cQ hrb2,go_sem,seval];rw[tJ]
  first|exact⟨rfl,g1,rfl⟩|exact g1
 case false=>
  simp only[g9,v1',v2',I9 _ _ hvl,HY _ _ _ hvl,go_sem,seval];refine EH a3 (by simp only[go_sem,seval]) ?_;intro nl3 cl3 _;refine Wk ?_
  refine aQ (fG q) (λd2 r2 env hp=>env=DP (.pt 1 0 0) (.rf 9 E 0 k.values.es.length k.values.es.length) (.int .i64 d.length) (.sl k.list.nl (k.list.es.map aK.av) k.list.cl) (.int .i64 k.list.es.length) (.int .i64 d.length) (.sl nl3 ((fG q).map aV) cl3) (.int .i64 (fG q).length) (.int .i64 d2.length) /\
   hp.get 1=some (0,.blk k.cells 6 true true false)/\hp.get 9=some (E,.blk (bP (iJ (nV sp q.value d.length) d.length d2)) 2 true false false)) ?_ ?_ ?_
  refine⟨rfl,?_,?_⟩;refine Wk ?_;exact g1;refine Wk ?_;rfl;clear g9 g1 hp;rintro env hp ⟨rfl,g1,g9⟩;simp only[J0,DP,cQ hlb,go_sem,seval]
  first|exact⟨rfl,g1,g9⟩
  clear g9 g1 hp;rintro d2 v r2 env hp hes2 ⟨rfl,g1,g9⟩;obtain⟨w1,w2,_⟩:=hrd v (by rw[hes2];simp);have hget2:(fG q)[d2.length]?=some v:=by rw[hes2];simp
  have hlt2:d2.length<(fG q).length:=by rw[hes2];simp
  have f1:decide ((d2.length:Int)<((fG q).length:Int))=true:=by simp;omega
  have f2:((d2.length:Int)<((fG q).length:Int))=True:=eq_true (by omega);have w1':(0<=v)=True:=eq_true w1;have w2':(v<(k.values.es.length:Int))=True:=eq_true w2;have hvl3:v.toNat<(iJ (nV sp q.value d.length) d.length d2).length:=by rw[jM,qQ];omega
  have hrb2:(d2++v::r2).length<=big:=by rw[<-hes2];exact hrlen
  simp only[J0,DP,f1,f2,g9,hget2,w1',w2',I9 _ v hvl3,HY _ v _ hvl3,cQ hrb2,go_sem,seval];rw[tJ]
  first|exact⟨rfl,g1,rfl⟩|exact g1
 rintro d x r env hp hes ⟨rfl,g1,g9⟩;obtain⟨hx,hlt⟩:=Q5 hes;have hb2:(d++x::r).length<=big:=by rw[<-hes];simp;omega
 have hlen:(eW k.values.es.length d.length).length=k.values.es.length:=l7 (by omega);have e1:decide ((d.length:Int)<k.inputs)=true:=by simp;omega
 have e2:((d.length:Int)<(k.values.es.length:Int))=True:=eq_true (by omega);have e3:(0+d.length*2+2<=(bP (eW k.values.es.length d.length)).length)=True:=eq_true (by rw[iC,hlen];omega);have e4:=YI (l:=bP (eW k.values.es.length d.length)) (n:=d.length) (.int .i64 (-1)) (.int .i64 (-1)) (by rw[iC,hlen];omega);rw[wB,LW (by omega)]at e4;simp only[VW,VZ,e1,e2,g9,e3,e4,cQ hb2,go_sem,seval];rw[cO];exact⟨rfl,g1,rfl⟩;rw[hc];refine Wk ?_;rw[LU,hc];rfl
end
end
section
section
variable{pg:Pg}
end
end
end Go.Tev
